/- Merged texts. -/
import Derived.Test.YtnnofopfbeklbaaGreatMK02
import Derived.Test.YtnnofopfbeklbaaGreatMK06
import Derived.Test.YtnnofopfbeklbaaGreatMK04
set_option linter.unusedVariables false
set_option linter.unusedSimpArgs false
set_option maxHeartbeats 8000000
set_option maxRecDepth 100000
section
namespace Go.Proofs.YtnnofopfbeklbaaGreat.C
open Go.RowKit Go.Proofs.YtnnofopfbeklbaaGreatW.PrintWords Go.Proofs.YtnnofopfbeklbaaGreatW.PrintLast Go.Proofs.YtnnofopfbeklbaaGreatW.PrintMore
attribute [local go_sem] Qjm Qjn Qjo Qjp Qjq Qjr Qjs Qjt
mutual
def Qbk.l0:Nat→List (S39)→List (S39)→Int→Int→Option (Int)
 | 0,_,_,_,_=>none
 | k+1,x0,x8,x9,x10=>if x10<x9 then(if 0≤x10 then(if x10<(x8.length:Int)then((Qbj.f k ((Qkk x8 x10).f0) ((Qkk x8 x10).f1) ((Qkk x8 x10).f2) ((Qkk x8 x10).f3)).bind fun t312=>(if t312=0 then(Qbk.l0 k x0 x8 x9 (wrap64 (x10+1)))else(some t312)))else(none))else(none))else(Qbk.l1 k x0 x0 (x0.length:Int) 0)
def Qbk.l1:Nat→List (S39)→List (S39)→Int→Int→Option (Int)
 | 0,_,_,_,_=>none
 | k+1,x0,x20,x21,x22=>if x22<x21 then(if 0≤x22 then(if x22<(x20.length:Int)then(if x22 > 0 then(if 0≤(wrap64 (x22-1))then(if(wrap64 (x22-1))<(x0.length:Int)then(if((Qkk x20 x22).f1)≤((Qkk x0 (wrap64 (x22-1))).f1)then(some 8)else(Qbk.l1 k x0 x20 x21 (wrap64 (x22+1))))else(none))else(none))else(Qbk.l1 k x0 x20 x21 (wrap64 (x22+1))))else(none))else(none))else(some 0)
end
def Qbk.f(k:Nat)(l0:List (S39)):Option (Int):=Qbk.l0 k l0 l0 (l0.length:Int) 0
theorem Qbk.calls (k:Nat) (A0:Option Addr) (c0:Nat) (l0:List (S39)) (r:Int) (w:World) (hr0:Kd.C k39 w A0 l0.length l0) (hc0:l0.length≤c0) (h:Qbk.f k l0=some r) :
  Calls Tryz.prog 76 #[.slice A0 l0.length c0] w fun e w'=>e=.returned (.int .i64 r)∧Below w.heap.size w w':=by
 have hu39:=Tryz.underlying39;have ac:=QA hr0;have bl:=QA hc0;clear hr0 hc0;have HB:=QA (Below.refl w.heap.size w);have H:(Qbk.l0 k l0 l0 (l0.length:Int) 0)=some r:=h;clear h;have H':=QA H;clear H
 go_enter Tryz.func76,Tryz.ntmps76
 go_wp2
 repeat(go_quiet (fail);try go_wp2)
 go_loopg [10] k (fun kq be w'=>∃(x10_1:Int),be=.int .i64 x10_1∧Aside0 (Qbk.l0 kq l0 l0 (l0.length:Int) x10_1=some r)∧Aside0 (kq≤k)∧Aside0 (Below w.heap.size w w'))
 case atStart=>exact⟨(0),qq_8,H',⟨Nat.le_refl _⟩,⟨qq_b⟩⟩
 case round =>
  clear H';obtain⟨x10_1,rfl,HA,HK1,HB⟩:=hrel
  cases gk with
  | zero=>exact absurd HA.out (by simp[Qbk.l0])
  | succ k1 =>
   have H:=HA.out;clear HA;simp only[Qbk.l0]at H
   by_cases c2:x10_1<(l0.length:Int)
   ·rw [if_pos c2]at H;have aL:=decide_eq_true c2;clear c2
    by_cases c3:0≤x10_1
    ·rw[if_pos c3]at H;have bb:=decide_eq_true c3;clear c3
     by_cases c4:x10_1<(l0.length:Int)
     ·rw[if_pos c4]at H;have bc:=decide_eq_true c4;clear c4;replace H:=Option.bind_eq_some_iff.mp H;obtain⟨af,aZ,H⟩:=H;have A5:=QA aZ;clear aZ
      by_cases c6:af=0
      ·rw[if_pos c6]at H;have aM:(af == 0)=true:=beq_iff_eq.mpr c6;have aN:(af != 0)=false:=bne_eq_false_iff_eq.mpr c6;clear c6;have H':=QA H;clear H;have ad:0≤(x10_1:Int):=of_decide_eq_true qq_5;have ae:x10_1<(l0.length:Int):=of_decide_eq_true qq_5;obtain⟨aS,az,I,J,K,L⟩:=Qkl ac.out x10_1 ad ae
       cases az
       replace I:=qq_h HB.out I;replace J:=qq_h HB.out J;replace K:=qq_h HB.out K;replace L:=qq_h HB.out L;replace ad:=eq_true ad;replace ae:=eq_true ae
       go_wp2_with (first |((with_reducible refine Qgv (N:=4) rfl ?_);refine qq_e 4 #[.bool false,.int .u64 0,.string (⟨#[]⟩:ByteArray),.string (⟨#[]⟩:ByteArray)] 39 ?_;intro ab hg w7 hbox hb;have n_:=qn4 (Qgk qq_b hb) (hbox) (qq_s hg:w.heap.size≤ab) (qq_s hg:w.heap.size≤ab);clear HB;obtain⟨HB,G,aT,aU⟩:=n_;clear hb hbox hg;obtain⟨aO,aP,aQ,aR⟩:=qc4 G.out;have bd:=Qeq G.out) |(go_at_call 23;(with_reducible refine(Qbj.calls k1 ((Qkk l0 x10_1).f0) ((Qkk l0 x10_1).f1) ((Qkk l0 x10_1).f2) ((Qkk l0 x10_1).f3) af _ A5.out).mono ?_);rintro e w9 ⟨rfl,hb⟩;have n_:=qn2 (Qfe (g:=ab) (o:=.cells #[.bool ((Qkk l0 x10_1).f0),.int .u64 ((Qkk l0 x10_1).f1),.string ((Qkk l0 x10_1).f2),.string ((Qkk l0 x10_1).f3)] 39 (0,0)) qq_x hb) (Qgk qq_b hb);clear G HB;obtain⟨G,HB⟩:=n_;(try clear hb);(try clear hb2);(try clear hk);(try clear hi)))
       go_roundg k1
       case measure=>have:=HK1.out;omega
       case rel=>exact⟨(wrap64 (x10_1+1)),qq_8,H',⟨by have:=HK1.out;omega⟩,⟨qq_b⟩⟩
      ·rw[if_neg c6]at H;have aM:(af == 0)=false:=beq_eq_false_iff_ne.mpr c6;have aN:(af != 0)=true:=bne_iff_ne.mpr c6;obtain rfl:=Option.some.inj H;have ad:0≤(x10_1:Int):=of_decide_eq_true qq_5;have ae:x10_1<(l0.length:Int):=of_decide_eq_true qq_5;obtain⟨aS,az,I,J,K,L⟩:=Qkl ac.out x10_1 ad ae
       cases az
       replace I:=qq_h HB.out I;replace J:=qq_h HB.out J;replace K:=qq_h HB.out K;replace L:=qq_h HB.out L;replace ad:=eq_true ad;replace ae:=eq_true ae
       go_wp2_with (first |((with_reducible refine Qgv (N:=4) rfl ?_);refine qq_e 4 #[.bool false,.int .u64 0,.string (⟨#[]⟩:ByteArray),.string (⟨#[]⟩:ByteArray)] 39 ?_;intro ab hg bn hbox hb;have n_:=qn4 (Qgk qq_b hb) (hbox) (qq_s hg:w.heap.size≤ab) (qq_s hg:w.heap.size≤ab);clear HB;obtain⟨HB,G,aT,aU⟩:=n_;clear hb hbox hg;obtain⟨aH,aI,aJ,aK⟩:=qc4 G.out;have aV:=Qeq G.out) |(go_at_call 23;(with_reducible refine(Qbj.calls k1 ((Qkk l0 x10_1).f0) ((Qkk l0 x10_1).f1) ((Qkk l0 x10_1).f2) ((Qkk l0 x10_1).f3) af _ A5.out).mono ?_);rintro e bo ⟨rfl,hb⟩;have n_:=qn2 (Qfe (g:=ab) (o:=.cells #[.bool ((Qkk l0 x10_1).f0),.int .u64 ((Qkk l0 x10_1).f1),.string ((Qkk l0 x10_1).f2),.string ((Qkk l0 x10_1).f3)] 39 (0,0)) qq_x hb) (Qgk qq_b hb);clear G HB;obtain⟨G,HB⟩:=n_;(try clear hb);(try clear hb2);(try clear hk);(try clear hi)))
       go_ret
       exact⟨qq_7,qq_b⟩
     ·rw[if_neg c4]at H;exact absurd H (by simp)
    ·rw[if_neg c3]at H;exact absurd H (by simp)
   ·rw [if_neg c2]at H;have aL:=decide_eq_false c2;clear c2;have H':=QA H;clear H;go_wp2
    repeat(go_quiet (fail);try go_wp2)
    go_loopg [22] k1 (fun kq bf w'=>∃(b:Int),bf=.int .i64 b∧Aside0 (Qbk.l1 kq l0 l0 (l0.length:Int) b=some r)∧Aside0 (kq≤k1)∧Aside0 (Below w.heap.size w w'))
    case atStart=>exact⟨(0),qq_8,H',⟨Nat.le_refl _⟩,⟨qq_b⟩⟩
    case round =>
     clear H'
     try clear c2
     try clear aL
     try clear c3
     try clear bb
     try clear c4
     try clear bc
     try clear c6
     try clear aM
     try clear aN
     try clear aH
     try clear aI
     try clear aJ
     try clear aK
     try clear aO
     try clear aP
     try clear aQ
     try clear aR
     try clear aV
     try clear bd
     try clear I
     try clear J
     try clear K
     try clear L
     try clear ad
     try clear ae
     obtain⟨b,rfl,HA,HK2,HB⟩:=hrel
     cases gk with
     | zero=>exact absurd HA.out (by simp[Qbk.l1])
     | succ k2 =>
      have H:=HA.out;clear HA;simp only[Qbk.l1]at H
      by_cases ai:b<(l0.length:Int)
      ·rw [if_pos ai]at H;have aW:=decide_eq_true ai;clear ai
       by_cases aA:0≤b
       ·rw [if_pos aA]at H;have bh:=decide_eq_true aA;clear aA
        by_cases aB:b<(l0.length:Int)
        ·rw [if_pos aB]at H;have bi:=decide_eq_true aB;clear aB
         by_cases aj:b > 0
         ·rw [if_pos aj]at H;have aX:decide (0<b)=true:=decide_eq_true aj;clear aj;obtain⟨q,ag⟩:∃j_:Int,(wrap64 (b-1))=j_:=⟨_,rfl⟩;replace H:(if 0≤(q)then(if(q)<(l0.length:Int)then(if((Qkk l0 b).f1)≤((Qkk l0 (q)).f1)then(some 8)else(Qbk.l1 k2 l0 l0 (l0.length:Int) (wrap64 (b+1))))else(none))else(none))=some r:=by first |(rw[ag]at H;exact H) |(simp only[ag]at H ⊢;exact H)
          have bg:(IntKind.i64.wrap (b-1))=q:=(Qhx _).trans ag
          by_cases aC:0≤(q)
          ·rw[if_pos aC]at H;have bj:=decide_eq_true aC;clear aC
           by_cases aD:(q)<(l0.length:Int)
           ·rw[if_pos aD]at H;have bk:=decide_eq_true aD;clear aD
            by_cases ak:((Qkk l0 b).f1)≤((Qkk l0 (q)).f1)
            ·rw[if_pos ak]at H;have aY:=decide_eq_true ak;clear ak;obtain rfl:=Option.some.inj H;have M:0≤(b:Int):=of_decide_eq_true qq_5;have O:b<(l0.length:Int):=of_decide_eq_true qq_5;obtain⟨l,ah,z,A,B,D⟩:=Qkl ac.out b M O
             cases ah
             replace z:=qq_h HB.out z;replace A:=qq_h HB.out A;replace B:=qq_h HB.out B;replace D:=qq_h HB.out D;replace M:=eq_true M;replace O:=eq_true O
             go_wp2_with (first |((with_reducible refine Qgv (N:=7) rfl ?_);refine qq_e 7 #[.bool false,.int .u64 0,.string (⟨#[]⟩:ByteArray),.string (⟨#[]⟩:ByteArray)] 39 ?_;intro a hg T hbox hb;have n_:=qn4 (Qgk qq_b hb) (hbox) (qq_s hg:w.heap.size≤a) (qq_s hg:w.heap.size≤a);clear HB;obtain⟨HB,n,m,U⟩:=n_;clear hb hbox hg;obtain⟨al,am,an,ao⟩:=qc4 n.out;have aE:=Qeq n.out;have s:0≤((q):Int):=of_decide_eq_true qq_5;have t:(q)<(l0.length:Int):=of_decide_eq_true qq_5;obtain⟨E,P,hx315_0,c,d,j⟩:=Qkl ac.out (q) s t;obtain rfl:l=E:=(by injection P);have u:l.block≠a:=Nat.ne_of_lt (Nat.lt_of_lt_of_le qq_10 m.out);have v:l.block≠a:=Nat.ne_of_lt (Nat.lt_of_lt_of_le qq_10 m.out);have x:l.block≠a:=Nat.ne_of_lt (Nat.lt_of_lt_of_le qq_10 m.out);have y:l.block≠a:=Nat.ne_of_lt (Nat.lt_of_lt_of_le qq_10 m.out);replace hx315_0:=qq_h HB.out hx315_0;replace c:=qq_h HB.out c;replace d:=qq_h HB.out d;replace j:=qq_h HB.out j;replace hx315_0:=(Qgp (p:=⟨a,0,none⟩) qq_4 (.bool ((Qkk l0 b).f0))).trans hx315_0;replace c:=(Qgp (p:=⟨a,0,none⟩) qq_4 (.bool ((Qkk l0 b).f0))).trans c;replace d:=(Qgp (p:=⟨a,0,none⟩) qq_4 (.bool ((Qkk l0 b).f0))).trans d;replace j:=(Qgp (p:=⟨a,0,none⟩) qq_4 (.bool ((Qkk l0 b).f0))).trans j;replace hx315_0:=(Qgp (p:=⟨a,1,none⟩) qq_4 (.int .u64 ((Qkk l0 b).f1))).trans hx315_0;replace c:=(Qgp (p:=⟨a,1,none⟩) qq_4 (.int .u64 ((Qkk l0 b).f1))).trans c;replace d:=(Qgp (p:=⟨a,1,none⟩) qq_4 (.int .u64 ((Qkk l0 b).f1))).trans d;replace j:=(Qgp (p:=⟨a,1,none⟩) qq_4 (.int .u64 ((Qkk l0 b).f1))).trans j;replace hx315_0:=(Qgp (p:=⟨a,2,none⟩) qq_4 (.string ((Qkk l0 b).f2))).trans hx315_0;replace c:=(Qgp (p:=⟨a,2,none⟩) qq_4 (.string ((Qkk l0 b).f2))).trans c;replace d:=(Qgp (p:=⟨a,2,none⟩) qq_4 (.string ((Qkk l0 b).f2))).trans d;replace j:=(Qgp (p:=⟨a,2,none⟩) qq_4 (.string ((Qkk l0 b).f2))).trans j;replace hx315_0:=(Qgp (p:=⟨a,3,none⟩) qq_4 (.string ((Qkk l0 b).f3))).trans hx315_0;replace c:=(Qgp (p:=⟨a,3,none⟩) qq_4 (.string ((Qkk l0 b).f3))).trans c;replace d:=(Qgp (p:=⟨a,3,none⟩) qq_4 (.string ((Qkk l0 b).f3))).trans d;replace j:=(Qgp (p:=⟨a,3,none⟩) qq_4 (.string ((Qkk l0 b).f3))).trans j;(try have X:=fun (n_:Nat)=>(show((((((T.drewN n_).setCell ⟨a,0,none⟩ (.bool ((Qkk l0 b).f0))).setCell ⟨a,1,none⟩ (.int .u64 ((Qkk l0 b).f1))).setCell ⟨a,2,none⟩ (.string ((Qkk l0 b).f2))).setCell ⟨a,3,none⟩ (.string ((Qkk l0 b).f3)))).cell? _=some _ from hx315_0));(try have Y:=fun (n_:Nat)=>(show((((((T.drewN n_).setCell ⟨a,0,none⟩ (.bool ((Qkk l0 b).f0))).setCell ⟨a,1,none⟩ (.int .u64 ((Qkk l0 b).f1))).setCell ⟨a,2,none⟩ (.string ((Qkk l0 b).f2))).setCell ⟨a,3,none⟩ (.string ((Qkk l0 b).f3)))).cell? _=some _ from c));(try have Z:=fun (n_:Nat)=>(show((((((T.drewN n_).setCell ⟨a,0,none⟩ (.bool ((Qkk l0 b).f0))).setCell ⟨a,1,none⟩ (.int .u64 ((Qkk l0 b).f1))).setCell ⟨a,2,none⟩ (.string ((Qkk l0 b).f2))).setCell ⟨a,3,none⟩ (.string ((Qkk l0 b).f3)))).cell? _=some _ from d));(try have aa:=fun (n_:Nat)=>(show((((((T.drewN n_).setCell ⟨a,0,none⟩ (.bool ((Qkk l0 b).f0))).setCell ⟨a,1,none⟩ (.int .u64 ((Qkk l0 b).f1))).setCell ⟨a,2,none⟩ (.string ((Qkk l0 b).f2))).setCell ⟨a,3,none⟩ (.string ((Qkk l0 b).f3)))).cell? _=some _ from j));clear u v x y;replace s:=eq_true s;replace t:=eq_true t))
             repeat(go_quiet (first |((with_reducible refine Qgv (N:=7) rfl ?_);refine qq_e 7 #[.bool false,.int .u64 0,.string (⟨#[]⟩:ByteArray),.string (⟨#[]⟩:ByteArray)] 39 ?_;intro a hg T hbox hb;have n_:=qn4 (Qgk qq_b hb) (hbox) (qq_s hg:w.heap.size≤a) (qq_s hg:w.heap.size≤a);clear HB;obtain⟨HB,n,m,U⟩:=n_;clear hb hbox hg;obtain⟨al,am,an,ao⟩:=qc4 n.out;have aE:=Qeq n.out;have s:0≤((q):Int):=of_decide_eq_true qq_5;have t:(q)<(l0.length:Int):=of_decide_eq_true qq_5;obtain⟨E,P,hx315_0,c,d,j⟩:=Qkl ac.out (q) s t;obtain rfl:l=E:=(by injection P);have u:l.block≠a:=Nat.ne_of_lt (Nat.lt_of_lt_of_le qq_10 m.out);have v:l.block≠a:=Nat.ne_of_lt (Nat.lt_of_lt_of_le qq_10 m.out);have x:l.block≠a:=Nat.ne_of_lt (Nat.lt_of_lt_of_le qq_10 m.out);have y:l.block≠a:=Nat.ne_of_lt (Nat.lt_of_lt_of_le qq_10 m.out);replace hx315_0:=qq_h HB.out hx315_0;replace c:=qq_h HB.out c;replace d:=qq_h HB.out d;replace j:=qq_h HB.out j;replace hx315_0:=(Qgp (p:=⟨a,0,none⟩) qq_4 (.bool ((Qkk l0 b).f0))).trans hx315_0;replace c:=(Qgp (p:=⟨a,0,none⟩) qq_4 (.bool ((Qkk l0 b).f0))).trans c;replace d:=(Qgp (p:=⟨a,0,none⟩) qq_4 (.bool ((Qkk l0 b).f0))).trans d;replace j:=(Qgp (p:=⟨a,0,none⟩) qq_4 (.bool ((Qkk l0 b).f0))).trans j;replace hx315_0:=(Qgp (p:=⟨a,1,none⟩) qq_4 (.int .u64 ((Qkk l0 b).f1))).trans hx315_0;replace c:=(Qgp (p:=⟨a,1,none⟩) qq_4 (.int .u64 ((Qkk l0 b).f1))).trans c;replace d:=(Qgp (p:=⟨a,1,none⟩) qq_4 (.int .u64 ((Qkk l0 b).f1))).trans d;replace j:=(Qgp (p:=⟨a,1,none⟩) qq_4 (.int .u64 ((Qkk l0 b).f1))).trans j;replace hx315_0:=(Qgp (p:=⟨a,2,none⟩) qq_4 (.string ((Qkk l0 b).f2))).trans hx315_0;replace c:=(Qgp (p:=⟨a,2,none⟩) qq_4 (.string ((Qkk l0 b).f2))).trans c;replace d:=(Qgp (p:=⟨a,2,none⟩) qq_4 (.string ((Qkk l0 b).f2))).trans d;replace j:=(Qgp (p:=⟨a,2,none⟩) qq_4 (.string ((Qkk l0 b).f2))).trans j;replace hx315_0:=(Qgp (p:=⟨a,3,none⟩) qq_4 (.string ((Qkk l0 b).f3))).trans hx315_0;replace c:=(Qgp (p:=⟨a,3,none⟩) qq_4 (.string ((Qkk l0 b).f3))).trans c;replace d:=(Qgp (p:=⟨a,3,none⟩) qq_4 (.string ((Qkk l0 b).f3))).trans d;replace j:=(Qgp (p:=⟨a,3,none⟩) qq_4 (.string ((Qkk l0 b).f3))).trans j;(try have X:=fun (n_:Nat)=>(show((((((T.drewN n_).setCell ⟨a,0,none⟩ (.bool ((Qkk l0 b).f0))).setCell ⟨a,1,none⟩ (.int .u64 ((Qkk l0 b).f1))).setCell ⟨a,2,none⟩ (.string ((Qkk l0 b).f2))).setCell ⟨a,3,none⟩ (.string ((Qkk l0 b).f3)))).cell? _=some _ from hx315_0));(try have Y:=fun (n_:Nat)=>(show((((((T.drewN n_).setCell ⟨a,0,none⟩ (.bool ((Qkk l0 b).f0))).setCell ⟨a,1,none⟩ (.int .u64 ((Qkk l0 b).f1))).setCell ⟨a,2,none⟩ (.string ((Qkk l0 b).f2))).setCell ⟨a,3,none⟩ (.string ((Qkk l0 b).f3)))).cell? _=some _ from c));(try have Z:=fun (n_:Nat)=>(show((((((T.drewN n_).setCell ⟨a,0,none⟩ (.bool ((Qkk l0 b).f0))).setCell ⟨a,1,none⟩ (.int .u64 ((Qkk l0 b).f1))).setCell ⟨a,2,none⟩ (.string ((Qkk l0 b).f2))).setCell ⟨a,3,none⟩ (.string ((Qkk l0 b).f3)))).cell? _=some _ from d));(try have aa:=fun (n_:Nat)=>(show((((((T.drewN n_).setCell ⟨a,0,none⟩ (.bool ((Qkk l0 b).f0))).setCell ⟨a,1,none⟩ (.int .u64 ((Qkk l0 b).f1))).setCell ⟨a,2,none⟩ (.string ((Qkk l0 b).f2))).setCell ⟨a,3,none⟩ (.string ((Qkk l0 b).f3)))).cell? _=some _ from j));clear u v x y;replace s:=eq_true s;replace t:=eq_true t));try go_wp2_with (first |((with_reducible refine Qgv (N:=7) rfl ?_);refine qq_e 7 #[.bool false,.int .u64 0,.string (⟨#[]⟩:ByteArray),.string (⟨#[]⟩:ByteArray)] 39 ?_;intro a hg T hbox hb;have n_:=qn4 (Qgk qq_b hb) (hbox) (qq_s hg:w.heap.size≤a) (qq_s hg:w.heap.size≤a);clear HB;obtain⟨HB,n,m,U⟩:=n_;clear hb hbox hg;obtain⟨al,am,an,ao⟩:=qc4 n.out;have aE:=Qeq n.out;have s:0≤((q):Int):=of_decide_eq_true qq_5;have t:(q)<(l0.length:Int):=of_decide_eq_true qq_5;obtain⟨E,P,hx315_0,c,d,j⟩:=Qkl ac.out (q) s t;obtain rfl:l=E:=(by injection P);have u:l.block≠a:=Nat.ne_of_lt (Nat.lt_of_lt_of_le qq_10 m.out);have v:l.block≠a:=Nat.ne_of_lt (Nat.lt_of_lt_of_le qq_10 m.out);have x:l.block≠a:=Nat.ne_of_lt (Nat.lt_of_lt_of_le qq_10 m.out);have y:l.block≠a:=Nat.ne_of_lt (Nat.lt_of_lt_of_le qq_10 m.out);replace hx315_0:=qq_h HB.out hx315_0;replace c:=qq_h HB.out c;replace d:=qq_h HB.out d;replace j:=qq_h HB.out j;replace hx315_0:=(Qgp (p:=⟨a,0,none⟩) qq_4 (.bool ((Qkk l0 b).f0))).trans hx315_0;replace c:=(Qgp (p:=⟨a,0,none⟩) qq_4 (.bool ((Qkk l0 b).f0))).trans c;replace d:=(Qgp (p:=⟨a,0,none⟩) qq_4 (.bool ((Qkk l0 b).f0))).trans d;replace j:=(Qgp (p:=⟨a,0,none⟩) qq_4 (.bool ((Qkk l0 b).f0))).trans j;replace hx315_0:=(Qgp (p:=⟨a,1,none⟩) qq_4 (.int .u64 ((Qkk l0 b).f1))).trans hx315_0;replace c:=(Qgp (p:=⟨a,1,none⟩) qq_4 (.int .u64 ((Qkk l0 b).f1))).trans c;replace d:=(Qgp (p:=⟨a,1,none⟩) qq_4 (.int .u64 ((Qkk l0 b).f1))).trans d;replace j:=(Qgp (p:=⟨a,1,none⟩) qq_4 (.int .u64 ((Qkk l0 b).f1))).trans j;replace hx315_0:=(Qgp (p:=⟨a,2,none⟩) qq_4 (.string ((Qkk l0 b).f2))).trans hx315_0;replace c:=(Qgp (p:=⟨a,2,none⟩) qq_4 (.string ((Qkk l0 b).f2))).trans c;replace d:=(Qgp (p:=⟨a,2,none⟩) qq_4 (.string ((Qkk l0 b).f2))).trans d;replace j:=(Qgp (p:=⟨a,2,none⟩) qq_4 (.string ((Qkk l0 b).f2))).trans j;replace hx315_0:=(Qgp (p:=⟨a,3,none⟩) qq_4 (.string ((Qkk l0 b).f3))).trans hx315_0;replace c:=(Qgp (p:=⟨a,3,none⟩) qq_4 (.string ((Qkk l0 b).f3))).trans c;replace d:=(Qgp (p:=⟨a,3,none⟩) qq_4 (.string ((Qkk l0 b).f3))).trans d;replace j:=(Qgp (p:=⟨a,3,none⟩) qq_4 (.string ((Qkk l0 b).f3))).trans j;(try have X:=fun (n_:Nat)=>(show((((((T.drewN n_).setCell ⟨a,0,none⟩ (.bool ((Qkk l0 b).f0))).setCell ⟨a,1,none⟩ (.int .u64 ((Qkk l0 b).f1))).setCell ⟨a,2,none⟩ (.string ((Qkk l0 b).f2))).setCell ⟨a,3,none⟩ (.string ((Qkk l0 b).f3)))).cell? _=some _ from hx315_0));(try have Y:=fun (n_:Nat)=>(show((((((T.drewN n_).setCell ⟨a,0,none⟩ (.bool ((Qkk l0 b).f0))).setCell ⟨a,1,none⟩ (.int .u64 ((Qkk l0 b).f1))).setCell ⟨a,2,none⟩ (.string ((Qkk l0 b).f2))).setCell ⟨a,3,none⟩ (.string ((Qkk l0 b).f3)))).cell? _=some _ from c));(try have Z:=fun (n_:Nat)=>(show((((((T.drewN n_).setCell ⟨a,0,none⟩ (.bool ((Qkk l0 b).f0))).setCell ⟨a,1,none⟩ (.int .u64 ((Qkk l0 b).f1))).setCell ⟨a,2,none⟩ (.string ((Qkk l0 b).f2))).setCell ⟨a,3,none⟩ (.string ((Qkk l0 b).f3)))).cell? _=some _ from d));(try have aa:=fun (n_:Nat)=>(show((((((T.drewN n_).setCell ⟨a,0,none⟩ (.bool ((Qkk l0 b).f0))).setCell ⟨a,1,none⟩ (.int .u64 ((Qkk l0 b).f1))).setCell ⟨a,2,none⟩ (.string ((Qkk l0 b).f2))).setCell ⟨a,3,none⟩ (.string ((Qkk l0 b).f3)))).cell? _=some _ from j));clear u v x y;replace s:=eq_true s;replace t:=eq_true t)))
             go_ret
             exact⟨by first|rfl |(simp[Qkb,Qkc]<;>rfl) |(simp only[← ag];first|rfl |(simp[Qkb,Qkc]<;>rfl)) |(simp[*,Qkb,Qkc]<;>rfl),qq_b⟩
            ·rw[if_neg ak]at H;have aY:=decide_eq_false ak;clear ak;have H':=QA H;clear H;have M:0≤(b:Int):=of_decide_eq_true qq_5;have O:b<(l0.length:Int):=of_decide_eq_true qq_5;obtain⟨l,ah,z,A,B,D⟩:=Qkl ac.out b M O
             cases ah
             replace z:=qq_h HB.out z;replace A:=qq_h HB.out A;replace B:=qq_h HB.out B;replace D:=qq_h HB.out D;replace M:=eq_true M;replace O:=eq_true O
             go_wp2_with (first |((with_reducible refine Qgv (N:=7) rfl ?_);refine qq_e 7 #[.bool false,.int .u64 0,.string (⟨#[]⟩:ByteArray),.string (⟨#[]⟩:ByteArray)] 39 ?_;intro a hg W hbox hb;have n_:=qn4 (Qgk qq_b hb) (hbox) (qq_s hg:w.heap.size≤a) (qq_s hg:w.heap.size≤a);clear HB;obtain⟨HB,n,m,U⟩:=n_;clear hb hbox hg;obtain⟨ap,aq,ar,au⟩:=qc4 n.out;have aF:=Qeq n.out;have s:0≤((q):Int):=of_decide_eq_true qq_5;have t:(q)<(l0.length:Int):=of_decide_eq_true qq_5;obtain⟨E,P,hx315_0,c,d,j⟩:=Qkl ac.out (q) s t;obtain rfl:l=E:=(by injection P);have u:l.block≠a:=Nat.ne_of_lt (Nat.lt_of_lt_of_le qq_10 m.out);have v:l.block≠a:=Nat.ne_of_lt (Nat.lt_of_lt_of_le qq_10 m.out);have x:l.block≠a:=Nat.ne_of_lt (Nat.lt_of_lt_of_le qq_10 m.out);have y:l.block≠a:=Nat.ne_of_lt (Nat.lt_of_lt_of_le qq_10 m.out);replace hx315_0:=qq_h HB.out hx315_0;replace c:=qq_h HB.out c;replace d:=qq_h HB.out d;replace j:=qq_h HB.out j;replace hx315_0:=(Qgp (p:=⟨a,0,none⟩) qq_4 (.bool ((Qkk l0 b).f0))).trans hx315_0;replace c:=(Qgp (p:=⟨a,0,none⟩) qq_4 (.bool ((Qkk l0 b).f0))).trans c;replace d:=(Qgp (p:=⟨a,0,none⟩) qq_4 (.bool ((Qkk l0 b).f0))).trans d;replace j:=(Qgp (p:=⟨a,0,none⟩) qq_4 (.bool ((Qkk l0 b).f0))).trans j;replace hx315_0:=(Qgp (p:=⟨a,1,none⟩) qq_4 (.int .u64 ((Qkk l0 b).f1))).trans hx315_0;replace c:=(Qgp (p:=⟨a,1,none⟩) qq_4 (.int .u64 ((Qkk l0 b).f1))).trans c;replace d:=(Qgp (p:=⟨a,1,none⟩) qq_4 (.int .u64 ((Qkk l0 b).f1))).trans d;replace j:=(Qgp (p:=⟨a,1,none⟩) qq_4 (.int .u64 ((Qkk l0 b).f1))).trans j;replace hx315_0:=(Qgp (p:=⟨a,2,none⟩) qq_4 (.string ((Qkk l0 b).f2))).trans hx315_0;replace c:=(Qgp (p:=⟨a,2,none⟩) qq_4 (.string ((Qkk l0 b).f2))).trans c;replace d:=(Qgp (p:=⟨a,2,none⟩) qq_4 (.string ((Qkk l0 b).f2))).trans d;replace j:=(Qgp (p:=⟨a,2,none⟩) qq_4 (.string ((Qkk l0 b).f2))).trans j;replace hx315_0:=(Qgp (p:=⟨a,3,none⟩) qq_4 (.string ((Qkk l0 b).f3))).trans hx315_0;replace c:=(Qgp (p:=⟨a,3,none⟩) qq_4 (.string ((Qkk l0 b).f3))).trans c;replace d:=(Qgp (p:=⟨a,3,none⟩) qq_4 (.string ((Qkk l0 b).f3))).trans d;replace j:=(Qgp (p:=⟨a,3,none⟩) qq_4 (.string ((Qkk l0 b).f3))).trans j;(try have X:=fun (n_:Nat)=>(show((((((W.drewN n_).setCell ⟨a,0,none⟩ (.bool ((Qkk l0 b).f0))).setCell ⟨a,1,none⟩ (.int .u64 ((Qkk l0 b).f1))).setCell ⟨a,2,none⟩ (.string ((Qkk l0 b).f2))).setCell ⟨a,3,none⟩ (.string ((Qkk l0 b).f3)))).cell? _=some _ from hx315_0));(try have Y:=fun (n_:Nat)=>(show((((((W.drewN n_).setCell ⟨a,0,none⟩ (.bool ((Qkk l0 b).f0))).setCell ⟨a,1,none⟩ (.int .u64 ((Qkk l0 b).f1))).setCell ⟨a,2,none⟩ (.string ((Qkk l0 b).f2))).setCell ⟨a,3,none⟩ (.string ((Qkk l0 b).f3)))).cell? _=some _ from c));(try have Z:=fun (n_:Nat)=>(show((((((W.drewN n_).setCell ⟨a,0,none⟩ (.bool ((Qkk l0 b).f0))).setCell ⟨a,1,none⟩ (.int .u64 ((Qkk l0 b).f1))).setCell ⟨a,2,none⟩ (.string ((Qkk l0 b).f2))).setCell ⟨a,3,none⟩ (.string ((Qkk l0 b).f3)))).cell? _=some _ from d));(try have aa:=fun (n_:Nat)=>(show((((((W.drewN n_).setCell ⟨a,0,none⟩ (.bool ((Qkk l0 b).f0))).setCell ⟨a,1,none⟩ (.int .u64 ((Qkk l0 b).f1))).setCell ⟨a,2,none⟩ (.string ((Qkk l0 b).f2))).setCell ⟨a,3,none⟩ (.string ((Qkk l0 b).f3)))).cell? _=some _ from j));clear u v x y;replace s:=eq_true s;replace t:=eq_true t))
             repeat(go_quiet (first |((with_reducible refine Qgv (N:=7) rfl ?_);refine qq_e 7 #[.bool false,.int .u64 0,.string (⟨#[]⟩:ByteArray),.string (⟨#[]⟩:ByteArray)] 39 ?_;intro a hg W hbox hb;have n_:=qn4 (Qgk qq_b hb) (hbox) (qq_s hg:w.heap.size≤a) (qq_s hg:w.heap.size≤a);clear HB;obtain⟨HB,n,m,U⟩:=n_;clear hb hbox hg;obtain⟨ap,aq,ar,au⟩:=qc4 n.out;have aF:=Qeq n.out;have s:0≤((q):Int):=of_decide_eq_true qq_5;have t:(q)<(l0.length:Int):=of_decide_eq_true qq_5;obtain⟨E,P,hx315_0,c,d,j⟩:=Qkl ac.out (q) s t;obtain rfl:l=E:=(by injection P);have u:l.block≠a:=Nat.ne_of_lt (Nat.lt_of_lt_of_le qq_10 m.out);have v:l.block≠a:=Nat.ne_of_lt (Nat.lt_of_lt_of_le qq_10 m.out);have x:l.block≠a:=Nat.ne_of_lt (Nat.lt_of_lt_of_le qq_10 m.out);have y:l.block≠a:=Nat.ne_of_lt (Nat.lt_of_lt_of_le qq_10 m.out);replace hx315_0:=qq_h HB.out hx315_0;replace c:=qq_h HB.out c;replace d:=qq_h HB.out d;replace j:=qq_h HB.out j;replace hx315_0:=(Qgp (p:=⟨a,0,none⟩) qq_4 (.bool ((Qkk l0 b).f0))).trans hx315_0;replace c:=(Qgp (p:=⟨a,0,none⟩) qq_4 (.bool ((Qkk l0 b).f0))).trans c;replace d:=(Qgp (p:=⟨a,0,none⟩) qq_4 (.bool ((Qkk l0 b).f0))).trans d;replace j:=(Qgp (p:=⟨a,0,none⟩) qq_4 (.bool ((Qkk l0 b).f0))).trans j;replace hx315_0:=(Qgp (p:=⟨a,1,none⟩) qq_4 (.int .u64 ((Qkk l0 b).f1))).trans hx315_0;replace c:=(Qgp (p:=⟨a,1,none⟩) qq_4 (.int .u64 ((Qkk l0 b).f1))).trans c;replace d:=(Qgp (p:=⟨a,1,none⟩) qq_4 (.int .u64 ((Qkk l0 b).f1))).trans d;replace j:=(Qgp (p:=⟨a,1,none⟩) qq_4 (.int .u64 ((Qkk l0 b).f1))).trans j;replace hx315_0:=(Qgp (p:=⟨a,2,none⟩) qq_4 (.string ((Qkk l0 b).f2))).trans hx315_0;replace c:=(Qgp (p:=⟨a,2,none⟩) qq_4 (.string ((Qkk l0 b).f2))).trans c;replace d:=(Qgp (p:=⟨a,2,none⟩) qq_4 (.string ((Qkk l0 b).f2))).trans d;replace j:=(Qgp (p:=⟨a,2,none⟩) qq_4 (.string ((Qkk l0 b).f2))).trans j;replace hx315_0:=(Qgp (p:=⟨a,3,none⟩) qq_4 (.string ((Qkk l0 b).f3))).trans hx315_0;replace c:=(Qgp (p:=⟨a,3,none⟩) qq_4 (.string ((Qkk l0 b).f3))).trans c;replace d:=(Qgp (p:=⟨a,3,none⟩) qq_4 (.string ((Qkk l0 b).f3))).trans d;replace j:=(Qgp (p:=⟨a,3,none⟩) qq_4 (.string ((Qkk l0 b).f3))).trans j;(try have X:=fun (n_:Nat)=>(show((((((W.drewN n_).setCell ⟨a,0,none⟩ (.bool ((Qkk l0 b).f0))).setCell ⟨a,1,none⟩ (.int .u64 ((Qkk l0 b).f1))).setCell ⟨a,2,none⟩ (.string ((Qkk l0 b).f2))).setCell ⟨a,3,none⟩ (.string ((Qkk l0 b).f3)))).cell? _=some _ from hx315_0));(try have Y:=fun (n_:Nat)=>(show((((((W.drewN n_).setCell ⟨a,0,none⟩ (.bool ((Qkk l0 b).f0))).setCell ⟨a,1,none⟩ (.int .u64 ((Qkk l0 b).f1))).setCell ⟨a,2,none⟩ (.string ((Qkk l0 b).f2))).setCell ⟨a,3,none⟩ (.string ((Qkk l0 b).f3)))).cell? _=some _ from c));(try have Z:=fun (n_:Nat)=>(show((((((W.drewN n_).setCell ⟨a,0,none⟩ (.bool ((Qkk l0 b).f0))).setCell ⟨a,1,none⟩ (.int .u64 ((Qkk l0 b).f1))).setCell ⟨a,2,none⟩ (.string ((Qkk l0 b).f2))).setCell ⟨a,3,none⟩ (.string ((Qkk l0 b).f3)))).cell? _=some _ from d));(try have aa:=fun (n_:Nat)=>(show((((((W.drewN n_).setCell ⟨a,0,none⟩ (.bool ((Qkk l0 b).f0))).setCell ⟨a,1,none⟩ (.int .u64 ((Qkk l0 b).f1))).setCell ⟨a,2,none⟩ (.string ((Qkk l0 b).f2))).setCell ⟨a,3,none⟩ (.string ((Qkk l0 b).f3)))).cell? _=some _ from j));clear u v x y;replace s:=eq_true s;replace t:=eq_true t));try go_wp2_with (first |((with_reducible refine Qgv (N:=7) rfl ?_);refine qq_e 7 #[.bool false,.int .u64 0,.string (⟨#[]⟩:ByteArray),.string (⟨#[]⟩:ByteArray)] 39 ?_;intro a hg W hbox hb;have n_:=qn4 (Qgk qq_b hb) (hbox) (qq_s hg:w.heap.size≤a) (qq_s hg:w.heap.size≤a);clear HB;obtain⟨HB,n,m,U⟩:=n_;clear hb hbox hg;obtain⟨ap,aq,ar,au⟩:=qc4 n.out;have aF:=Qeq n.out;have s:0≤((q):Int):=of_decide_eq_true qq_5;have t:(q)<(l0.length:Int):=of_decide_eq_true qq_5;obtain⟨E,P,hx315_0,c,d,j⟩:=Qkl ac.out (q) s t;obtain rfl:l=E:=(by injection P);have u:l.block≠a:=Nat.ne_of_lt (Nat.lt_of_lt_of_le qq_10 m.out);have v:l.block≠a:=Nat.ne_of_lt (Nat.lt_of_lt_of_le qq_10 m.out);have x:l.block≠a:=Nat.ne_of_lt (Nat.lt_of_lt_of_le qq_10 m.out);have y:l.block≠a:=Nat.ne_of_lt (Nat.lt_of_lt_of_le qq_10 m.out);replace hx315_0:=qq_h HB.out hx315_0;replace c:=qq_h HB.out c;replace d:=qq_h HB.out d;replace j:=qq_h HB.out j;replace hx315_0:=(Qgp (p:=⟨a,0,none⟩) qq_4 (.bool ((Qkk l0 b).f0))).trans hx315_0;replace c:=(Qgp (p:=⟨a,0,none⟩) qq_4 (.bool ((Qkk l0 b).f0))).trans c;replace d:=(Qgp (p:=⟨a,0,none⟩) qq_4 (.bool ((Qkk l0 b).f0))).trans d;replace j:=(Qgp (p:=⟨a,0,none⟩) qq_4 (.bool ((Qkk l0 b).f0))).trans j;replace hx315_0:=(Qgp (p:=⟨a,1,none⟩) qq_4 (.int .u64 ((Qkk l0 b).f1))).trans hx315_0;replace c:=(Qgp (p:=⟨a,1,none⟩) qq_4 (.int .u64 ((Qkk l0 b).f1))).trans c;replace d:=(Qgp (p:=⟨a,1,none⟩) qq_4 (.int .u64 ((Qkk l0 b).f1))).trans d;replace j:=(Qgp (p:=⟨a,1,none⟩) qq_4 (.int .u64 ((Qkk l0 b).f1))).trans j;replace hx315_0:=(Qgp (p:=⟨a,2,none⟩) qq_4 (.string ((Qkk l0 b).f2))).trans hx315_0;replace c:=(Qgp (p:=⟨a,2,none⟩) qq_4 (.string ((Qkk l0 b).f2))).trans c;replace d:=(Qgp (p:=⟨a,2,none⟩) qq_4 (.string ((Qkk l0 b).f2))).trans d;replace j:=(Qgp (p:=⟨a,2,none⟩) qq_4 (.string ((Qkk l0 b).f2))).trans j;replace hx315_0:=(Qgp (p:=⟨a,3,none⟩) qq_4 (.string ((Qkk l0 b).f3))).trans hx315_0;replace c:=(Qgp (p:=⟨a,3,none⟩) qq_4 (.string ((Qkk l0 b).f3))).trans c;replace d:=(Qgp (p:=⟨a,3,none⟩) qq_4 (.string ((Qkk l0 b).f3))).trans d;replace j:=(Qgp (p:=⟨a,3,none⟩) qq_4 (.string ((Qkk l0 b).f3))).trans j;(try have X:=fun (n_:Nat)=>(show((((((W.drewN n_).setCell ⟨a,0,none⟩ (.bool ((Qkk l0 b).f0))).setCell ⟨a,1,none⟩ (.int .u64 ((Qkk l0 b).f1))).setCell ⟨a,2,none⟩ (.string ((Qkk l0 b).f2))).setCell ⟨a,3,none⟩ (.string ((Qkk l0 b).f3)))).cell? _=some _ from hx315_0));(try have Y:=fun (n_:Nat)=>(show((((((W.drewN n_).setCell ⟨a,0,none⟩ (.bool ((Qkk l0 b).f0))).setCell ⟨a,1,none⟩ (.int .u64 ((Qkk l0 b).f1))).setCell ⟨a,2,none⟩ (.string ((Qkk l0 b).f2))).setCell ⟨a,3,none⟩ (.string ((Qkk l0 b).f3)))).cell? _=some _ from c));(try have Z:=fun (n_:Nat)=>(show((((((W.drewN n_).setCell ⟨a,0,none⟩ (.bool ((Qkk l0 b).f0))).setCell ⟨a,1,none⟩ (.int .u64 ((Qkk l0 b).f1))).setCell ⟨a,2,none⟩ (.string ((Qkk l0 b).f2))).setCell ⟨a,3,none⟩ (.string ((Qkk l0 b).f3)))).cell? _=some _ from d));(try have aa:=fun (n_:Nat)=>(show((((((W.drewN n_).setCell ⟨a,0,none⟩ (.bool ((Qkk l0 b).f0))).setCell ⟨a,1,none⟩ (.int .u64 ((Qkk l0 b).f1))).setCell ⟨a,2,none⟩ (.string ((Qkk l0 b).f2))).setCell ⟨a,3,none⟩ (.string ((Qkk l0 b).f3)))).cell? _=some _ from j));clear u v x y;replace s:=eq_true s;replace t:=eq_true t)))
             go_roundg k2
             case measure=>have:=HK1.out;have:=HK2.out;omega
             case rel=>exact⟨(wrap64 (b+1)),qq_8,H',⟨by have:=HK1.out;have:=HK2.out;omega⟩,⟨qq_b⟩⟩
           ·rw[if_neg aD]at H;exact absurd H (by simp)
          ·rw[if_neg aC]at H;exact absurd H (by simp)
         ·rw[if_neg aj]at H;have aX:decide (0<b)=false:=decide_eq_false aj;clear aj;have H':=QA H;clear H;have M:0≤(b:Int):=of_decide_eq_true qq_5;have O:b<(l0.length:Int):=of_decide_eq_true qq_5;obtain⟨l,ah,z,A,B,D⟩:=Qkl ac.out b M O
          cases ah
          replace z:=qq_h HB.out z;replace A:=qq_h HB.out A;replace B:=qq_h HB.out B;replace D:=qq_h HB.out D;replace M:=eq_true M;replace O:=eq_true O
          go_wp2_with (first |((with_reducible refine Qgv (N:=7) rfl ?_);refine qq_e 7 #[.bool false,.int .u64 0,.string (⟨#[]⟩:ByteArray),.string (⟨#[]⟩:ByteArray)] 39 ?_;intro a hg ba hbox hb;have n_:=qn4 (Qgk qq_b hb) (hbox) (qq_s hg:w.heap.size≤a) (qq_s hg:w.heap.size≤a);clear HB;obtain⟨HB,n,m,U⟩:=n_;clear hb hbox hg;obtain⟨av,aw,ax,ay⟩:=qc4 n.out;have aG:=Qeq n.out))
          repeat(go_quiet (first |((with_reducible refine Qgv (N:=7) rfl ?_);refine qq_e 7 #[.bool false,.int .u64 0,.string (⟨#[]⟩:ByteArray),.string (⟨#[]⟩:ByteArray)] 39 ?_;intro a hg ba hbox hb;have n_:=qn4 (Qgk qq_b hb) (hbox) (qq_s hg:w.heap.size≤a) (qq_s hg:w.heap.size≤a);clear HB;obtain⟨HB,n,m,U⟩:=n_;clear hb hbox hg;obtain⟨av,aw,ax,ay⟩:=qc4 n.out;have aG:=Qeq n.out));try go_wp2_with (first |((with_reducible refine Qgv (N:=7) rfl ?_);refine qq_e 7 #[.bool false,.int .u64 0,.string (⟨#[]⟩:ByteArray),.string (⟨#[]⟩:ByteArray)] 39 ?_;intro a hg ba hbox hb;have n_:=qn4 (Qgk qq_b hb) (hbox) (qq_s hg:w.heap.size≤a) (qq_s hg:w.heap.size≤a);clear HB;obtain⟨HB,n,m,U⟩:=n_;clear hb hbox hg;obtain⟨av,aw,ax,ay⟩:=qc4 n.out;have aG:=Qeq n.out)))
          go_roundg k2
          case measure=>have:=HK1.out;have:=HK2.out;omega
          case rel=>exact⟨(wrap64 (b+1)),qq_8,H',⟨by have:=HK1.out;have:=HK2.out;omega⟩,⟨qq_b⟩⟩
        ·rw[if_neg aB]at H;exact absurd H (by simp)
       ·rw[if_neg aA]at H;exact absurd H (by simp)
      ·rw[if_neg ai]at H;have aW:=decide_eq_false ai;clear ai;obtain rfl:=Option.some.inj H;go_wp2
       repeat(go_quiet (fail);try go_wp2)
       go_ret
       exact⟨qq_7,qq_b⟩
def Qbz.f(a0:Int):Option (Int):=some (wrap64 ((wrap64 ((wrap64 ((wrap64 ((wrap64 ((wrap64 (9+(wrap64 (12*a0))))+(wrap64 (8*(wrap64 (Int.tdiv (wrap64 (a0+15)) 16))))))+8))+1))+(wrap64 (Int.tdiv (wrap64 ((wrap64 ((wrap64 ((wrap64 (9+(wrap64 (12*a0))))+(wrap64 (8*(wrap64 (Int.tdiv (wrap64 (a0+15)) 16))))))+8))-1)) 254))))+1))
theorem Qbz.calls(a0:Int)(r:Int)(w:World)(h:Qbz.f a0=some r) :
  Calls Tryz.prog 64 #[.int .i64 a0] w fun e w'=>e=.returned (.int .i64 r)∧Drawn0 w w':=by
 have H:(some (wrap64 ((wrap64 ((wrap64 ((wrap64 ((wrap64 ((wrap64 (9+(wrap64 (12*a0))))+(wrap64 (8*(wrap64 (Int.tdiv (wrap64 (a0+15)) 16))))))+8))+1))+(wrap64 (Int.tdiv (wrap64 ((wrap64 ((wrap64 ((wrap64 (9+(wrap64 (12*a0))))+(wrap64 (8*(wrap64 (Int.tdiv (wrap64 (a0+15)) 16))))))+8))-1)) 254))))+1)))=some r:=h;clear h;obtain rfl:=Option.some.inj H
 go_enter Tryz.func64,Tryz.ntmps64
 go_wp2;go_ret
 exact⟨by first|rfl |(simp;done) |(simp[*];done),by repeat(first|exact Drawn0.refl _|apply Drawn0.step)⟩
def Qcc.j0:Nat→Int→Bool→Int→Int→Int→Int→Int→Option (Bool)
 | 0,_,_,_,_,_,_,_=>none
 | k+1,x1,x14,x328000,x328001,x328002,x328003,x328004=>if x14=true then(some false)else((Qbz.f (wrap64 (x328004+1))).bind fun t329=>((Qbm.f k x328000 x328001).bind fun t330=>(some (decide ((IntKind.u64.wrap (wrap64 ((wrap64 (x328003+x1))+t329)))≤t330)))))
def Qcc.f(k:Nat)(a0_0:Int)(a0_1:Int)(a0_2:Int)(a0_3:Int)(a0_4:Int)(a1:Int):Option (Bool):=if a1<1 then(Qcc.j0 k a1 true a0_0 a0_1 a0_2 a0_3 a0_4)else((Qbm.f k a0_0 a0_1).bind fun t328=>(Qcc.j0 k a1 (decide ((IntKind.u64.wrap (a1)) > t328)) a0_0 a0_1 a0_2 a0_3 a0_4))
def Qcc.T3:Bool × List (List Nat × List Nat):=(true,[([],[]),([0],[0]),([],[]),([1,2],[1,2]),([],[]),([4],[4]),([5],[5]),([6],[6]),([3,7],[3,7]),([8],[8]),([],[]),([10],[10]),([11,7],[11]),([9,12],[9,12]),([13,12,0,1,2,3,4,5,6,7,8,9,10,11,12,13],[13])])
def Qcc.B3:List Nat:=[0,1,0,7,0,16,48,112,255,511,0,1024,3312,8191,16383]
theorem Qcc.tab3:rtab .any (Qjd Tryz.f24 3)=Qcc.T3:=by kernel_rfl
theorem Qcc.bits3:Qix Qcc.T3.2 Qcc.B3=true:=by kernel_rfl
theorem Qcc.calls(k:Nat)(b:Int)(c:Int)(l:Int)(m:Int)(j:Int)(a1:Int)(r:Bool)(w:World)(h:Qcc.f k b c l m j a1=some r) :
  Calls Tryz.prog 24 #[.agg #[.int .u8 b,.int .u32 c,.int .u64 l,.int .i64 m,.int .i64 j],.int .i64 a1] w fun e w'=>e=.returned (.bool r)∧Below w.heap.size w w':=by
 have hu36:=Tryz.underlying36;have hu27:=Tryz.underlying27;have HB:=QA (Below.refl w.heap.size w);have H:(if a1<1 then(Qcc.j0 k a1 true b c l m j)else((Qbm.f k b c).bind fun t=>(Qcc.j0 k a1 (decide ((IntKind.u64.wrap (a1)) > t)) b c l m j)))=some r:=h;clear h;have u:=QA H;clear H
 go_enter Tryz.func24,Tryz.ntmps24
 go_upto_region 1 with(first |((with_reducible refine Qgv (N:=2) rfl ?_);refine qq_e 2 #[.int .u8 b,.int .u32 c,.int .u64 l,.int .i64 m,.int .i64 j] 36 ?_;intro d hg w4 hbox hb;have n_:=qn4 (Qgk qq_b hb) (hbox) (qq_s hg:w.heap.size≤d) (qq_s hg:w.heap.size≤d);clear HB;obtain⟨HB,a,P,T⟩:=n_;clear hb hbox hg))
 (try simp only[Act.put,List.setIfInBounds_toArray,List.set_cons_zero,List.set_cons_succ])
 go_cut [14] (fun L wc=>∃(kq:Nat) (s:Bool),L=.bool s∧Aside0 (Qcc.j0 kq a1 s b c l m j=some r)∧Aside0 (kq≤k)∧Aside0 (wc.heap[d]? = some (.cells #[.int .u8 b,.int .u32 c,.int .u64 l,.int .i64 m,.int .i64 j] 36 (0,0)))∧Aside0 (Below w.heap.size w wc))
 case first =>
  have H:=u.out;clear u
  by_cases c5:a1<1
  ·rw[if_pos c5]at H;have q:=decide_eq_true c5;clear c5
   (first|rw[q] |(simp only[Qhx,Qhy];rw[q])|skip)
   have H':=QA H;clear H;go_wp2
   go_meet
   case rel=>exact⟨_,(true),qq_8,H',⟨by first|omega|exact Nat.le_refl _⟩,⟨by(with_reducible repeat(first|apply Qfd|apply Qfc|apply Qfb));exact a.out⟩,⟨qq_b⟩⟩
  ·rw[if_neg c5]at H;have q:=decide_eq_false c5;clear c5
   (first|rw[q] |(simp only[Qhx,Qhy];rw[q])|skip)
   replace H:=Option.bind_eq_some_iff.mp H;obtain⟨t,E,H⟩:=H;have A6:=QA E;clear E;have H':=QA H;clear H;obtain⟨v,x,y,z,A⟩:=qc5 a.out;have G:=Qeq a.out
   go_wp2_with (first |(go_at_call 63;(with_reducible refine(Qbm.calls k b c t _ A6.out).mono ?_);rintro e w8 ⟨rfl,hb⟩;have n_:=qn2 (Qfe (g:=d) (o:=.cells #[.int .u8 b,.int .u32 c,.int .u64 l,.int .i64 m,.int .i64 j] 36 (0,0)) qq_0 hb) (Qgk qq_b hb);clear a HB;obtain⟨a,HB⟩:=n_;(try clear hb);(try clear hb2);(try clear hk);(try clear hi)))
   go_meet
   case rel=>exact⟨_,(decide ((IntKind.u64.wrap (a1)) > t)),qq_8,H',⟨by first|omega|exact Nat.le_refl _⟩,⟨by(with_reducible repeat(first|apply Qfd|apply Qfc|apply Qfb));exact a.out⟩,⟨qq_b⟩⟩
 case rest =>
  clear u
  try clear c5
  try clear q
  try clear v
  try clear x
  try clear y
  try clear z
  try clear A
  try clear G
  obtain⟨kq,s,rfl,HA,HJ2,a,HB⟩:=hcut
  cases kq with
  | zero=>exact absurd HA.out (by simp[Qcc.j0])
  | succ kj2 =>
   have H:=HA.out;clear HA;simp only[Qcc.j0]at H
   by_cases c9:s=true
   ·subst c9;rw[if_pos rfl]at H;obtain rfl:=Option.some.inj H;go_wp2;go_ret
    exact⟨qq_7,qq_b⟩
   ·replace c9:=Bool.eq_false_iff.mpr c9;subst c9;rw[if_neg (show ¬(false=true)by decide)]at H;replace H:=Option.bind_eq_some_iff.mp H;obtain⟨I,B,H⟩:=H;have M:=QA B;clear B;replace H:=Option.bind_eq_some_iff.mp H;obtain⟨J,D,H⟩:=H;have O:=QA D;clear D;obtain rfl:=Option.some.inj H
    try go_wp2
    have n_:=qn2 (Qfc a.out) (Qgr HB.out);clear a HB;obtain⟨a,HB⟩:=n_;refine Qhk (n:=15) (S:=fun w'=>w'.cell? ⟨d,0,none⟩=some (.int .u8 b)∧w'.cell? ⟨d,1,none⟩=some (.int .u32 c)∧w'.cell? ⟨d,2,none⟩=some (.int .u64 l)∧w'.cell? ⟨d,3,none⟩=some (.int .i64 m)∧w'.cell? ⟨d,4,none⟩=some (.int .i64 j)) (ds:=[]) (bm 15 0) qq_6 rfl rfl ⟨(Qep a.out 0).trans rfl,(Qep a.out 1).trans rfl,(Qep a.out 2).trans rfl,(Qep a.out 3).trans rfl,(Qep a.out 4).trans rfl⟩ (fun p=>?_);refine Qjb Qcc.tab3 Qcc.bits3 (fun HT_ HW_=>?_);generalize wc.drew=w12 at a HB p ⊢;refine pz_ (i:=0) (N:=some 15) (bm 15 1) (Qit HT_.out qq_6) ?_;refine pz_ (i:=2) (N:=some 17) (bm 15 5) (Qit HT_.out qq_6) ?_;refine pz_ (i:=4) (N:=some 19) (bm 15 21) (Qit HT_.out qq_6) ?_;refine pz_ (i:=10) (N:=some 25) (bm 15 1045) (Qit HT_.out qq_6) ?_;refine tz_ (i:=1) (N:=some 16) (bm 15 1047) (Qja HT_.out HW_.out qq_6) p ?_;refine pz_ (i:=3) (N:=some 18) (bm 15 1055) (Qit HT_.out qq_6) ?_;refine tz_ (i:=5) (N:=some 20) (bm 15 1087) (Qja HT_.out HW_.out qq_6) p ?_;refine pz_ (i:=6) (N:=some 21) (bm 15 1151) (Qit HT_.out qq_6) ?_;refine tz_ (i:=11) (N:=some 26) (bm 15 3199) (Qja HT_.out HW_.out qq_6) p ?_;refine one_ (i:=7) (N:=some 22) (bm 15 3327) rfl rfl (Qiu HT_.out qq_6) (by decide) (fun K hK=>?_);refine Qht Tryz.func64 qq_6 rfl #[.int .i64 (wrap64 (j+1))] (by rfl) rfl rfl qq_1 ?_;with_reducible refine(Qbz.calls (wrap64 (j+1)) I _ M.out).mono ?_
    rintro e w' ⟨rfl,⟨nd,rfl⟩⟩;refine⟨_,rfl,?_⟩;refine hK.out _ _ ⟨(Qep a.out 0).trans rfl,(Qep a.out 1).trans rfl,(Qep a.out 2).trans rfl,(Qep a.out 3).trans rfl,(Qep a.out 4).trans rfl⟩ (fun p=>?_);clear hK K;refine nzp_ 22 ?_;refine pz_ (i:=8) (N:=some 23) (bm 15 3583) (Qit HT_.out qq_6) ?_;refine pz_ (i:=9) (N:=some 24) (bm 15 4095) (Qit HT_.out qq_6) ?_;refine one_ (i:=12) (N:=some 27) (bm 15 8191) rfl rfl (Qiu HT_.out qq_6) (by decide) (fun K hK=>?_);refine Qht Tryz.func63 qq_6 rfl #[.agg #[.int .u8 b,.int .u32 c]] (by rfl) rfl rfl qq_1 ?_;with_reducible refine(Qbm.calls kj2 b c J _ O.out).mono ?_
    rintro e U ⟨rfl,hb⟩;refine⟨_,rfl,?_⟩;have n_:=qn2 (Qfe (g:=d) (o:=.cells #[.int .u8 b,.int .u32 c,.int .u64 l,.int .i64 m,.int .i64 j] 36 (0,0)) qq_0 hb) (Qgk qq_b hb);clear a HB;obtain⟨a,HB⟩:=n_
    (try clear hb)
    (try clear hb2)
    (try clear hk)
    (try clear hi)
    refine hK.out _ _ ⟨(Qep a.out 0).trans rfl,(Qep a.out 1).trans rfl,(Qep a.out 2).trans rfl,(Qep a.out 3).trans rfl,(Qep a.out 4).trans rfl⟩ (fun p=>?_);clear hK K;refine nzp_ 27 ?_;refine pz_ (i:=13) (N:=some 28) (bm 15 16383) (Qit HT_.out qq_6) ?_;refine pz_ (i:=14) (N:=some 4) (bm 15 32767) (Qit HT_.out qq_6) ?_;refine Qhn (Qiw HT_.out qq_6) ?_
    try go_wp2
    go_ret
    exact⟨qq_7,qq_b⟩
def Qce.f(a0_0:Int)(a0_1:Int)(a0_2:Int)(a0_3:Int)(a0_4:Int)(a1:Int):Option (Int × Int × Int × Int × Int):=some (a0_0,a0_1,a0_2,wrap64 (a0_3+a1),wrap64 (a0_4+1))
theorem Qce.calls(a:Int)(b:Int)(c:Int)(d:Int)(k:Int)(a1:Int)(r1:Int)(r2:Int)(r3:Int)(r4:Int)(r5:Int)(w:World)(h:Qce.f a b c d k a1=some (r1,r2,r3,r4,r5)) :
  Calls Tryz.prog 25 #[.agg #[.int .u8 a,.int .u32 b,.int .u64 c,.int .i64 d,.int .i64 k],.int .i64 a1] w fun e w'=>e=.returned (.agg #[.int .u8 r1,.int .u32 r2,.int .u64 r3,.int .i64 r4,.int .i64 r5])∧Below w.heap.size w w':=by
 have hu36:=Tryz.underlying36;have HB:=QA (Below.refl w.heap.size w);have H:(some (a,b,c,wrap64 (d+a1),wrap64 (k+1)))=some (r1,r2,r3,r4,r5):=h;clear h;simp only[Option.some.injEq,Prod.mk.injEq]at H;obtain⟨rfl,rfl,rfl,rfl,rfl⟩:=H
 go_enter Tryz.func25,Tryz.ntmps25
 go_wp2_with (first |((with_reducible refine Qgv (N:=2) rfl ?_);refine qq_e 2 #[.int .u8 a,.int .u32 b,.int .u64 c,.int .i64 d,.int .i64 k] 36 ?_;intro j hg w3 hbox hb;have n_:=qn4 (Qgk qq_b hb) (hbox) (qq_s hg:w.heap.size≤j) (qq_s hg:w.heap.size≤j);clear HB;obtain⟨HB,n,D,E⟩:=n_;clear hb hbox hg) |((with_reducible refine Qgv (N:=4) rfl ?_);refine qq_e 4 #[.int .u8 0,.int .u32 0,.int .u64 0,.int .i64 0,.int .i64 0] 36 ?_;intro m hg w4 hbox hb;have n_:=qn7 (Qfe (g:=j) (o:=.cells #[.int .u8 a,.int .u32 b,.int .u64 c,.int .i64 d,.int .i64 k] 36 (0,0)) qq_0 hb) (Qgk qq_b hb) (hbox) (qq_s hg:w.heap.size≤m) (qq_s hg:w.heap.size≤m) ((by rw[hg];exact Nat.ne_of_lt (Qeo (g:=j) (o:=.cells #[.int .u8 a,.int .u32 b,.int .u64 c,.int .i64 d,.int .i64 k] 36 (0,0)) qq_0):j≠m)) ((by rw[hg];exact Nat.ne_of_gt (Qeo (g:=j) (o:=.cells #[.int .u8 a,.int .u32 b,.int .u64 c,.int .i64 d,.int .i64 k] 36 (0,0)) qq_0):m≠j));clear n HB;obtain⟨n,HB,p,G,I,q,l⟩:=n_;clear hb hbox hg;have J:=q.out;have K:=l.out;obtain⟨r,s,t,u,v⟩:=qc5 n.out;have L:=Qeq n.out;obtain⟨x,y,z,A,B⟩:=qc5 p.out;have M:=Qeq p.out))
 refine bodyPost_ret (results_cell_row rfl _ _ m 36 #[.int .u8 a,.int .u32 b,.int .u64 c,.int .i64 (wrap64 (d+a1)),.int .i64 (wrap64 (k+1))] (0,0) _ rfl (by(with_reducible repeat(first|apply Qfd|apply Qfc|apply Qfb));refine Qgq (cs:=#[.int .u8 a,.int .u32 b,.int .u64 c,.int .i64 (wrap64 (d+a1)),.int .i64 0]) ?_ 4 _ rfl;(with_reducible repeat(first|apply Qfd|apply Qfc|apply Qfb));refine Qgq (cs:=#[.int .u8 a,.int .u32 b,.int .u64 c,.int .i64 0,.int .i64 0]) ?_ 3 _ rfl;(with_reducible repeat(first|apply Qfd|apply Qfc|apply Qfb));refine Qgq (cs:=#[.int .u8 a,.int .u32 b,.int .u64 0,.int .i64 0,.int .i64 0]) ?_ 2 _ rfl;(with_reducible repeat(first|apply Qfd|apply Qfc|apply Qfb));refine Qgq (cs:=#[.int .u8 a,.int .u32 0,.int .u64 0,.int .i64 0,.int .i64 0]) ?_ 1 _ rfl;(with_reducible repeat(first|apply Qfd|apply Qfc|apply Qfb));refine Qgq (cs:=#[.int .u8 0,.int .u32 0,.int .u64 0,.int .i64 0,.int .i64 0]) ?_ 0 _ rfl;(with_reducible repeat(first|apply Qfd|apply Qfc|apply Qfb));refine Qen ?_ l.out _;(with_reducible repeat(first|apply Qfd|apply Qfc|apply Qfb));refine Qen ?_ l.out _;(with_reducible repeat(first|apply Qfd|apply Qfc|apply Qfb));exact p.out) Tryz.underlying36 rfl qq_6) rfl ?_;exact⟨qq_7,qq_b⟩
def Qcm.l0:Nat→List (S39)→Int→List (S210)→Int→Int→Option ((List (S39)))
 | 0,_,_,_,_,_=>none
 | k+1,x3,x4,x7,x8,x9=>if x9<x8 then(if 0≤x9 then(if x9<(x7.length:Int)then(if x3.length<2932031007402 then(Qcm.l0 k (x3++[(⟨false,IntKind.u64.wrap (x4+1),(Qlc x7 x9).f0,(Qlc x7 x9).f1⟩:S39)]) (IntKind.u64.wrap (x4+1)) x7 x8 (wrap64 (x9+1)))else(none))else(none))else(none))else(some x3)
def Qcm.f(k:Nat)(l0:List (S210)):Option ((List (S39))):=Qcm.l0 k ([]:List (S39)) 0 l0 (l0.length:Int) 0
theorem Qcm.calls(k:Nat)(A0:Option Addr)(c0:Nat)(l0:List (S210))(r:List (S39))(w:World)(hr0:Kd.C k210 w A0 l0.length l0)(hc0:l0.length≤c0)(h:Qcm.f k l0=some r) :
  Calls Tryz.prog 89 #[.slice A0 l0.length c0] w fun e w'=>∃z:Value,e=.returned (z)∧Kd.R k39 39 w' w.heap.size (fun _=>True) z r∧Below w.heap.size w w':=by
 have hu210:=Tryz.underlying210;have hu39:=Tryz.underlying39;have E:=QA hr0;have U:=QA hc0;clear hr0 hc0;have HB:=QA (Below.refl w.heap.size w);have H:(Qcm.l0 k ([]:List (S39)) 0 l0 (l0.length:Int) 0)=some r:=h;clear h;have H':=QA H;clear H
 go_enter Tryz.func89,Tryz.ntmps89
 go_wp2
 go_loopg [3,4,9] k (fun kq v3 v4 v9 w'=>∃(m:List (S39)) (c:Int) (a:Int),v4=.int .u64 c∧v9=.int .i64 a∧Aside0 (Qcm.l0 kq m c l0 (l0.length:Int) a=some r)∧Aside0 (kq≤k)∧Aside0 (Kd.R k39 39 w' w.heap.size (fun _=>True) v3 m)∧Aside0 (Below w.heap.size w w'))
 case atStart=>exact⟨(([]:List (S39))),(0),(0),qq_8,qq_8,H',⟨Nat.le_refl _⟩,⟨by first|exact Kd.R_nil _ _ _ _ _|exact Kd.N_nil _ _ _ _ _|exact Kd.V_nil _ _ _ _ _|exact Kd.Q_nil _ _ _ _ _|exact Kd.S_nil _ _ _ _ _⟩,⟨qq_b⟩⟩
 case round =>
  clear H';obtain⟨m,c,a,rfl,rfl,HA,HK1,HO_3,HB⟩:=hrel
  cases gk with
  | zero=>exact absurd HA.out (by simp[Qcm.l0])
  | succ k1 =>
   have H:=HA.out;clear HA;simp only[Qcm.l0]at H
   by_cases c2:a<(l0.length:Int)
   ·rw [if_pos c2]at H;have A:=decide_eq_true c2;clear c2
    by_cases c3:0≤a
    ·rw[if_pos c3]at H;have M:=decide_eq_true c3;clear c3
     by_cases c4:a<(l0.length:Int)
     ·rw[if_pos c4]at H;have O:=decide_eq_true c4;clear c4
      by_cases c5:m.length<2932031007402
      ·rw[if_pos c5]at H;have B:=QA c5;clear c5;obtain⟨u,j⟩:∃y_:List (S39),y_=(m++[(⟨false,IntKind.u64.wrap (c+1),(Qlc l0 a).f0,(Qlc l0 a).f1⟩:S39)]):=⟨_,rfl⟩;replace H:(Qcm.l0 k1 u (IntKind.u64.wrap (c+1)) l0 (l0.length:Int) (wrap64 (a+1)))=some r:=by first |(rw[j];with_reducible exact H) |(have v:=(Option.bind_some _ _).symm.trans H;rw[j];with_reducible exact v) |(have v:=(Option.bind_some _ _).symm.trans H;with_reducible exact v)|with_reducible exact H |(rw[j];exact H)|exact H
       have x:=QA j;clear j;have H':=QA H;clear H;have s:0≤(a:Int):=of_decide_eq_true qq_5;have t:a<(l0.length:Int):=of_decide_eq_true qq_5;obtain⟨J,D,n,q⟩:=at_T210 E.out a s t
       cases D
       replace n:=qq_h HB.out n;replace q:=qq_h HB.out q;replace s:=eq_true s;replace t:=eq_true t
       go_wp2_with (first |((with_reducible refine Qgv (N:=6) rfl ?_);refine qq_e 6 #[.string (⟨#[]⟩:ByteArray),.string (⟨#[]⟩:ByteArray)] 210 ?_;intro l hg w6 hbox hb;have n_:=qn5 (Kd.R_below qq_2 hb) (Qgk qq_b hb) (hbox) (qq_s hg:w.heap.size≤l) (qq_s hg:w.heap.size≤l);clear HO_3 HB;obtain⟨HO_3,HB,d,K,L⟩:=n_;clear hb hbox hg;obtain⟨G,I⟩:=qc2 d.out;have P:=Qeq d.out) |((with_reducible refine Qjv (b:=.append) (xs:=#[.tmp 15,.tmp 22]) rfl ?_);at_builtin;refine Kd.R_append k39 (w0:=w) w.heap.size rfl (.tmp 15) (.tmp 22) 23 39 (.agg #[(.bool false),(.int .u64 0),(.string ⟨#[]⟩),(.string ⟨#[]⟩)]) 48 rfl Tryz.underlying23 Qkg rfl (by decide) (by omega) u3 m (⟨false,IntKind.u64.wrap (c+1),(Qlc l0 a).f0,(Qlc l0 a).f1⟩:S39) [.bool false,.int .u64 (IntKind.u64.wrap (c+1)),.string ((Qlc l0 a).f0),.string ((Qlc l0 a).f1)] (fun _=>True) (fun _=>False) rfl qq_14 ?aP (fun _ hk=>hk.elim) ?aF ?aO ?aB ?aS ?aL ?_;(case aP=>exact Qkj _ _ _ (⟨false,IntKind.u64.wrap (c+1),(Qlc l0 a).f0,(Qlc l0 a).f1⟩:S39));(case aB=>exact qq_b);(case aF=>exact(fun _ _=>trivial));(case aO=>exact(by(with_reducible repeat(first|apply Kd.R_alloc|apply Kd.R_drewN|apply Kd.R_drew));exact Kd.R_mono (Kd.R_far (p:=⟨l,1,none⟩) (Kd.R_far (p:=⟨l,0,none⟩) (Kd.R_types HO_3.out d.out (by decide)) (fun _ hk=>hk.2) (.string ((Qlc l0 a).f0))) (fun _ hk=>hk.2) (.string ((Qlc l0 a).f1))) (fun _ hk=>trivial)));(case aS=>exact(Qgj qq_b));(case aL=>have:=B.out;omega);intro T w8 ho hb hg hat;rw[← x.out]at ho;have n_:=qn3 (Qer (g:=l) (o:=.cells #[.string ((Qlc l0 a).f0),.string ((Qlc l0 a).f1)] 210 (0,0)) qq_x hg (Kd.R_ne HO_3.out d.out (by decide))) (hb) (ho);clear d HB HO_3;obtain⟨d,HB,y⟩:=n_;clear ho hb hg hat))
       go_roundg k1
       case measure=>have:=HK1.out;omega
       case rel=>exact⟨(u),(IntKind.u64.wrap (c+1)),(wrap64 (a+1)),qq_8,qq_8,H',⟨by have:=HK1.out;omega⟩,⟨by(with_reducible repeat(first|apply Kd.R_alloc|apply Kd.R_drewN|apply Kd.R_drew));exact y.out⟩,⟨qq_b⟩⟩
      ·rw[if_neg c5]at H;exact absurd H (by simp)
     ·rw[if_neg c4]at H;exact absurd H (by simp)
    ·rw[if_neg c3]at H;exact absurd H (by simp)
   ·rw[if_neg c2]at H;have A:=decide_eq_false c2;clear c2;obtain rfl:=Option.some.inj H;go_wp2;go_ret
    exact⟨_,by first|rfl |(simp[Qkb,Qkc]<;>rfl) |(simp[*,Qkb,Qkc]<;>rfl),by(with_reducible repeat(first|apply Kd.R_alloc|apply Kd.R_drewN|apply Kd.R_drew));exact HO_3.out,qq_b⟩
end Go.Proofs.YtnnofopfbeklbaaGreat.C
end
