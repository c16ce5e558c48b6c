/- Merged texts. -/
import Derived.Test.YtnnofopfbeklbaaGreatML01
import Derived.Test.YtnnofopfbeklbaaGreatML02
import Derived.Test.YtnnofopfbeklbaaGreatML03
import Derived.Lib.SliceRun
import Derived.StillTailTactics
import Derived.Shelf.Bytes.SlIndexAt
set_option linter.unusedVariables false
set_option linter.unusedSimpArgs false
set_option maxHeartbeats 8000000
set_option maxRecDepth 100000
section
namespace Go.Proofs.YtnnofopfbeklbaaGreat.C
open Go.RowKit Go.Proofs.YtnnofopfbeklbaaGreatW.PrintWords Go.Proofs.YtnnofopfbeklbaaGreatW.PrintLast Go.Proofs.YtnnofopfbeklbaaGreatW.PrintMore
attribute [local go_sem] Qib Qic Qid Qie Qif Qig Qih Qii
mutual
def Qco.l0:Nat→List (S39)→List (S39)→Int→Int→Option (Int)
 | 0,_,_,_,_=>none
 | k+1,x0,x7,x8,x9=>if x9<x8 then(if 0≤x9 then(if x9<(x7.length:Int)then((Qcm.f k ((Qiu x7 x9).f0) ((Qiu x7 x9).f1) ((Qiu x7 x9).f2) ((Qiu x7 x9).f3)).bind fun t147=>(if t147=0 then(Qco.l0 k x0 x7 x8 (wrap64 (x9+1)))else(some t147)))else(none))else(none))else(Qco.l1 k x0 1)
def Qco.l1:Nat→List (S39)→Int→Option (Int)
 | 0,_,_=>none
 | k+1,x0,x6=>if x6<(x0.length:Int)then(if 0≤x6 then(if 0≤(wrap64 (x6-1))then(if(wrap64 (x6-1))<(x0.length:Int)then(if((Qiu x0 x6).f1)≤((Qiu x0 (wrap64 (x6-1))).f1)then(some 8)else(Qco.l1 k x0 (wrap64 (x6+1))))else(none))else(none))else(none))else(some 0)
end
def Qco.f(k:Nat)(l0:List (S39)):Option (Int):=Qco.l0 k l0 l0 (l0.length:Int) 0
theorem Qco.calls (k:Nat) (A0:Option Addr) (c0:Nat) (l0:List (S39)) (r:Int) (w:World) (hr0:Kd.C k39 w A0 l0.length l0) (hc0:l0.length≤c0) (h:Qco.f k l0=some r) :
  Calls Tryz.prog 124 #[.slice A0 l0.length c0] w fun e w'=>e=.returned (.int .i64 r)∧Below w.heap.size w w':=by
 have hu39:=Tryz.underlying39;have L:=QA hr0;have aC:=QA hc0;clear hr0 hc0;have HB:=QA (Below.refl w.heap.size w);have H:(Qco.l0 k l0 l0 (l0.length:Int) 0)=some r:=h;clear h;have H':=QA H;clear H
 go_enter Tryz.func124,Tryz.ntmps124
 go_wp2
 repeat(go_quiet (fail);try go_wp2)
 go_loopg [9] k (fun kq v9 w'=>∃(a:Int),v9=.int .i64 a∧Aside0 (Qco.l0 kq l0 l0 (l0.length:Int) a=some r)∧Aside0 (kq≤k)∧Aside0 (Below w.heap.size w w'))
 case atStart=>exact⟨(0),qq_4,H',⟨Nat.le_refl _⟩,⟨qq_b⟩⟩
 case round =>
  clear H';obtain⟨a,rfl,HA,HK1,HB⟩:=hrel
  cases gk with
  | zero=>exact absurd HA.out (by simp[Qco.l0])
  | succ k1 =>
   have H:=HA.out;clear HA;simp only[Qco.l0]at H
   by_cases c2:a<(l0.length:Int)
   ·rw [if_pos c2]at H;have af:=decide_eq_true c2;clear c2
    by_cases c3:0≤a
    ·rw[if_pos c3]at H;have av:=decide_eq_true c3;clear c3
     by_cases c4:a<(l0.length:Int)
     ·rw[if_pos c4]at H;have aw:=decide_eq_true c4;clear c4;obtain⟨D,au,H⟩:=Option.bind_eq_some_iff.mp H;have A5:=QA au;clear au
      by_cases c6:D=0
      ·rw[if_pos c6]at H;have ag:(D == 0)=true:=beq_iff_eq.mpr c6;have ah:(D != 0)=false:=bne_eq_false_iff_eq.mpr c6;clear c6;have H':=QA H;clear H;have A:0≤(a:Int):=of_decide_eq_true qq_3;have B:a<(l0.length:Int):=of_decide_eq_true qq_3;obtain⟨am,U,j,l,m,n⟩:=Qiv L.out a A B
       cases U
       replace j:=qq_h HB.out j;replace l:=qq_h HB.out l;replace m:=qq_h HB.out m;replace n:=qq_h HB.out n;replace A:=eq_true A;replace B:=eq_true B
       go_wp2_with (first |((with_reducible refine Qft (N:=4) rfl ?_);refine qq_e 4 #[.bool false,.int .u64 0,.string (⟨#[]⟩:ByteArray),.string (⟨#[]⟩:ByteArray)] 39 ?_;intro z hg w7 hbox hb;have n_:=qn4 (Qfj qq_b hb) (hbox) (qq_s hg:w.heap.size≤z) (qq_s hg:w.heap.size≤z);clear HB;obtain⟨HB,d,an,ao⟩:=n_;clear hb hbox hg;obtain⟨ai,aj,ak,al⟩:=qc4 d.out;have ax:=Qdw d.out) |(go_at_call 56;(with_reducible refine(Qcm.calls k1 ((Qiu l0 a).f0) ((Qiu l0 a).f1) ((Qiu l0 a).f2) ((Qiu l0 a).f3) D _ A5.out).mono ?_);rintro e w9 ⟨rfl,hb⟩;have n_:=qn2 (Qei (g:=z) (o:=.cells #[.bool ((Qiu l0 a).f0),.int .u64 ((Qiu l0 a).f1),.string ((Qiu l0 a).f2),.string ((Qiu l0 a).f3)] 39 (0,0)) qq_x hb) (Qfj qq_b hb);clear d HB;obtain⟨d,HB⟩:=n_;(try clear hb);(try clear hb2);(try clear hk);(try clear hi)))
       go_roundg k1
       case measure=>have:=HK1.out;omega
       case rel=>exact⟨(wrap64 (a+1)),qq_4,H',⟨by have:=HK1.out;omega⟩,⟨qq_b⟩⟩
      ·rw[if_neg c6]at H;have ag:(D == 0)=false:=beq_eq_false_iff_ne.mpr c6;have ah:(D != 0)=true:=bne_iff_ne.mpr c6;obtain rfl:=Option.some.inj H;have A:0≤(a:Int):=of_decide_eq_true qq_3;have B:a<(l0.length:Int):=of_decide_eq_true qq_3;obtain⟨am,U,j,l,m,n⟩:=Qiv L.out a A B
       cases U
       replace j:=qq_h HB.out j;replace l:=qq_h HB.out l;replace m:=qq_h HB.out m;replace n:=qq_h HB.out n;replace A:=eq_true A;replace B:=eq_true B
       go_wp2_with (first |((with_reducible refine Qft (N:=4) rfl ?_);refine qq_e 4 #[.bool false,.int .u64 0,.string (⟨#[]⟩:ByteArray),.string (⟨#[]⟩:ByteArray)] 39 ?_;intro z hg aD hbox hb;have n_:=qn4 (Qfj qq_b hb) (hbox) (qq_s hg:w.heap.size≤z) (qq_s hg:w.heap.size≤z);clear HB;obtain⟨HB,d,an,ao⟩:=n_;clear hb hbox hg;obtain⟨ab,ac,ad,ae⟩:=qc4 d.out;have ap:=Qdw d.out) |(go_at_call 56;(with_reducible refine(Qcm.calls k1 ((Qiu l0 a).f0) ((Qiu l0 a).f1) ((Qiu l0 a).f2) ((Qiu l0 a).f3) D _ A5.out).mono ?_);rintro e aE ⟨rfl,hb⟩;have n_:=qn2 (Qei (g:=z) (o:=.cells #[.bool ((Qiu l0 a).f0),.int .u64 ((Qiu l0 a).f1),.string ((Qiu l0 a).f2),.string ((Qiu l0 a).f3)] 39 (0,0)) qq_x hb) (Qfj qq_b hb);clear d HB;obtain⟨d,HB⟩:=n_;(try clear hb);(try clear hb2);(try clear hk);(try clear hi)))
       go_ret
       exact⟨qq_2,qq_b⟩
     ·rw[if_neg c4]at H;exact absurd H (by simp)
    ·rw[if_neg c3]at H;exact absurd H (by simp)
   ·rw [if_neg c2]at H;have af:=decide_eq_false c2;clear c2;have H':=QA H;clear H;go_wp2
    repeat(go_quiet (fail);try go_wp2)
    go_loopg [6] k1 (fun kq v6 w'=>∃(b:Int),v6=.int .i64 b∧Aside0 (Qco.l1 kq l0 b=some r)∧Aside0 (kq≤k1)∧Aside0 (Below w.heap.size w w'))
    case atStart=>exact⟨(1),qq_4,H',⟨Nat.le_refl _⟩,⟨qq_b⟩⟩
    case round =>
     clear H'
     try clear c2
     try clear af
     try clear c3
     try clear av
     try clear c4
     try clear aw
     try clear c6
     try clear ag
     try clear ah
     try clear ab
     try clear ac
     try clear ad
     try clear ae
     try clear ai
     try clear aj
     try clear ak
     try clear al
     try clear ap
     try clear ax
     try clear j
     try clear l
     try clear m
     try clear n
     try clear A
     try clear B
     obtain⟨b,rfl,HA,HK2,HB⟩:=hrel
     cases gk with
     | zero=>exact absurd HA.out (by simp[Qco.l1])
     | succ k2 =>
      have H:=HA.out;clear HA;simp only[Qco.l1]at H
      by_cases M:b<(l0.length:Int)
      ·rw [if_pos M]at H;have aq:=decide_eq_true M;clear M
       by_cases Y:0≤b
       ·rw [if_pos Y]at H;have az:=decide_eq_true Y;clear Y;obtain⟨c,K⟩:∃j_:Int,(wrap64 (b-1))=j_:=⟨_,rfl⟩;replace H:(if 0≤(c)then(if(c)<(l0.length:Int)then(if((Qiu l0 b).f1)≤((Qiu l0 (c)).f1)then(some 8)else(Qco.l1 k2 l0 (wrap64 (b+1))))else(none))else(none))=some r:=by first |(rw[K]at H;exact H) |(simp only[K]at H ⊢;exact H)
        have ay:(IntKind.i64.wrap (b-1))=c:=(Qgo _).trans K
        by_cases Z:0≤(c)
        ·rw[if_pos Z]at H;have aA:=decide_eq_true Z;clear Z
         by_cases aa:(c)<(l0.length:Int)
         ·rw[if_pos aa]at H;have aB:=decide_eq_true aa;clear aa
          by_cases O:((Qiu l0 b).f1)≤((Qiu l0 (c)).f1)
          ·rw[if_pos O]at H;have ar:=decide_eq_true O;clear O;obtain rfl:=Option.some.inj H;have E:0≤(b:Int):=of_decide_eq_true qq_3;have G:b<(l0.length:Int):=of_decide_eq_true qq_3;obtain⟨P,W,p,q,s,t⟩:=Qiv L.out b E G
           cases W
           replace p:=qq_h HB.out p;replace q:=qq_h HB.out q;replace s:=qq_h HB.out s;replace t:=qq_h HB.out t;replace E:=eq_true E;replace G:=eq_true G;have I:0≤((c):Int):=of_decide_eq_true qq_3;have J:(c)<(l0.length:Int):=of_decide_eq_true qq_3;obtain⟨T,X,u,v,x,y⟩:=Qiv L.out (c) I J;obtain rfl:P=T:=(by injection X);replace u:=qq_h HB.out u;replace v:=qq_h HB.out v;replace x:=qq_h HB.out x;replace y:=qq_h HB.out y;replace I:=eq_true I;replace J:=eq_true J;go_wp2
           repeat(go_quiet (fail);try go_wp2)
           go_ret
           exact⟨by first|rfl |(simp[Qio,Qip]<;>rfl) |(simp only[← K];first|rfl |(simp[Qio,Qip]<;>rfl)) |(simp[*,Qio,Qip]<;>rfl),qq_b⟩
          ·rw[if_neg O]at H;have ar:=decide_eq_false O;clear O;have H':=QA H;clear H;have E:0≤(b:Int):=of_decide_eq_true qq_3;have G:b<(l0.length:Int):=of_decide_eq_true qq_3;obtain⟨P,W,p,q,s,t⟩:=Qiv L.out b E G
           cases W
           replace p:=qq_h HB.out p;replace q:=qq_h HB.out q;replace s:=qq_h HB.out s;replace t:=qq_h HB.out t;replace E:=eq_true E;replace G:=eq_true G;have I:0≤((c):Int):=of_decide_eq_true qq_3;have J:(c)<(l0.length:Int):=of_decide_eq_true qq_3;obtain⟨T,X,u,v,x,y⟩:=Qiv L.out (c) I J;obtain rfl:P=T:=(by injection X);replace u:=qq_h HB.out u;replace v:=qq_h HB.out v;replace x:=qq_h HB.out x;replace y:=qq_h HB.out y;replace I:=eq_true I;replace J:=eq_true J;go_wp2
           repeat(go_quiet (fail);try go_wp2)
           go_roundg k2
           case measure=>have:=HK1.out;have:=HK2.out;omega
           case rel=>exact⟨(wrap64 (b+1)),qq_4,H',⟨by have:=HK1.out;have:=HK2.out;omega⟩,⟨qq_b⟩⟩
         ·rw[if_neg aa]at H;exact absurd H (by simp)
        ·rw[if_neg Z]at H;exact absurd H (by simp)
       ·rw[if_neg Y]at H;exact absurd H (by simp)
      ·rw[if_neg M]at H;have aq:=decide_eq_false M;clear M;obtain rfl:=Option.some.inj H;go_wp2
       repeat(go_quiet (fail);try go_wp2)
       go_ret
       exact⟨qq_2,qq_b⟩
def Qab.f(a0:Int)(a1:Int):Option (Int × Int):=some (IntKind.u64.wrap ((IntKind.u64.wrap ((IntKind.u64.wrap ((a0/4294967296)*(a1/4294967296)))+((IntKind.u64.wrap ((IntKind.u64.wrap ((a0/4294967296)*(Go.bits .and .u64 a1 4294967295)))+((IntKind.u64.wrap ((Go.bits .and .u64 a0 4294967295)*(Go.bits .and .u64 a1 4294967295)))/4294967296)))/4294967296)))+((IntKind.u64.wrap ((Go.bits .and .u64 (IntKind.u64.wrap ((IntKind.u64.wrap ((a0/4294967296)*(Go.bits .and .u64 a1 4294967295)))+((IntKind.u64.wrap ((Go.bits .and .u64 a0 4294967295)*(Go.bits .and .u64 a1 4294967295)))/4294967296))) 4294967295)+(IntKind.u64.wrap ((Go.bits .and .u64 a0 4294967295)*(a1/4294967296)))))/4294967296)),IntKind.u64.wrap (a0*a1))
theorem Qab.calls(a0:Int)(a1:Int)(r1:Int)(r2:Int)(w:World)(h:Qab.f a0 a1=some (r1,r2)) :
  Calls Tryz.prog 218 #[.int .u64 a0,.int .u64 a1] w fun e w'=>e=.returned (.tuple #[.int .u64 r1,.int .u64 r2])∧Drawn0 w w':=by
 have H:(some (IntKind.u64.wrap ((IntKind.u64.wrap ((IntKind.u64.wrap ((a0/4294967296)*(a1/4294967296)))+((IntKind.u64.wrap ((IntKind.u64.wrap ((a0/4294967296)*(Go.bits .and .u64 a1 4294967295)))+((IntKind.u64.wrap ((Go.bits .and .u64 a0 4294967295)*(Go.bits .and .u64 a1 4294967295)))/4294967296)))/4294967296)))+((IntKind.u64.wrap ((Go.bits .and .u64 (IntKind.u64.wrap ((IntKind.u64.wrap ((a0/4294967296)*(Go.bits .and .u64 a1 4294967295)))+((IntKind.u64.wrap ((Go.bits .and .u64 a0 4294967295)*(Go.bits .and .u64 a1 4294967295)))/4294967296))) 4294967295)+(IntKind.u64.wrap ((Go.bits .and .u64 a0 4294967295)*(a1/4294967296)))))/4294967296)),IntKind.u64.wrap (a0*a1)))=some (r1,r2):=h;clear h;simp only[Option.some.injEq,Prod.mk.injEq]at H;obtain⟨rfl,rfl⟩:=H
 go_enter Tryz.func218,Tryz.ntmps218
 go_wp2
 go_ret2
 exact⟨by first|rfl |(simp;done) |(simp[*];done),by repeat(first|exact Drawn0.refl _|apply Drawn0.step)⟩
def Qaa.f(a0:Int)(a1:Int):Option (Int × Int):=(Qab.f a0 a1).bind fun bt114=>(some (bt114.1,bt114.2))
theorem Qaa.calls(a0:Int)(a1:Int)(r1:Int)(r2:Int)(w:World)(h:Qaa.f a0 a1=some (r1,r2)) :
  Calls Tryz.prog 168 #[.int .u64 a0,.int .u64 a1] w fun e w'=>e=.returned (.tuple #[.int .u64 r1,.int .u64 r2])∧Drawn0 w w':=by
 have H:((Qab.f a0 a1).bind fun bt114=>(some (bt114.1,bt114.2)))=some (r1,r2):=h;clear h;replace H:=Option.bind_eq_some_iff.mp H;obtain⟨⟨t114,t115⟩,A30,H⟩:=H;replace H:(some (t114,t115))=some (r1,r2):=H;have A3:=QA A30;clear A30;simp only[Option.some.injEq,Prod.mk.injEq]at H;obtain⟨rfl,rfl⟩:=H
 go_enter Tryz.func168,Tryz.ntmps168
 go_wp2_with (first |((with_reducible refine Qij (f:=218) rfl ?_);refine Qgm (some 25) rfl rfl Tryz.func218 qq_7 rfl #[.int .u64 a0,.int .u64 a1] rfl qq_1 ?_;(with_reducible refine(Qab.calls a0 a1 t114 t115 _ A3.out).mono ?_);rintro e w' ⟨rfl,⟨nd,rfl⟩⟩;refine⟨_,rfl,?_⟩))
 go_ret2
 exact⟨by first|rfl |(simp;done) |(simp[*];done),by repeat(first|exact Drawn0.refl _|apply Drawn0.step)⟩
def Qcr.f(k:Nat)(a0_0:Int)(a0_1:Int)(a1_0:Int)(a1_1:Int):Option (Int):=(Qag.f a0_0 a1_0).bind fun t215=>((Qaf.f a0_1 a1_1).bind fun t216=>((Qah.f k (([t215,t216]:List Int))).bind fun t220=>(some t220)))
def Qcr.T1:Bool × List (List Nat × List Nat):=(true,[([],[]),([0],[0]),([],[]),([2],[2]),([1,3],[1,3]),([],[]),([5],[5]),([],[]),([7],[7]),([6,8,4],[6,8]),([4,9],[4,9]),([10,9],[10]),([11,11,0,1,2,3,4,5,6,7,8,9,10,11],[11])])
def Qcr.B1:List Nat:=[0,1,0,4,15,0,32,0,128,511,1023,2047,4095]
theorem Qcr.tab1:rtab .any (Qhu Tryz.f118 1)=Qcr.T1:=by kernel_rfl
theorem Qcr.bits1:Qho Qcr.T1.2 Qcr.B1=true:=by kernel_rfl
theorem Qcr.calls(k:Nat)(j:Int)(l:Int)(p:Int)(q:Int)(r:Int)(w:World)(h:Qcr.f k j l p q=some r) :
  Calls Tryz.prog 118 #[.agg #[.int .u64 j,.int .u32 l],.agg #[.int .u64 p,.int .u32 q]] w fun e w'=>e=.returned (.int .i64 r)∧Below w.heap.size w w':=by
 have hu117:=Tryz.underlying117;have HB:=QA (Below.refl w.heap.size w);have H:((Qag.f j p).bind fun s=>((Qaf.f l q).bind fun t=>((Qah.f k (([s,t]:List Int))).bind fun v=>(some v))))=some r:=h;clear h;obtain⟨s,D,H⟩:=Option.bind_eq_some_iff.mp H;have A3:=QA D;clear D;obtain⟨t,E,H⟩:=Option.bind_eq_some_iff.mp H;have A4:=QA E;clear E;obtain⟨z,u⟩:∃y_:List Int,y_=(([s,t]:List Int)):=⟨_,rfl⟩;replace H:((Qah.f k z).bind fun v=>(some v))=some r:=by first |(rw[u];with_reducible exact H) |(have B:=(Option.bind_some _ _).symm.trans H;rw[u];with_reducible exact B) |(have B:=(Option.bind_some _ _).symm.trans H;with_reducible exact B)|with_reducible exact H |(rw[u];exact H)|exact H
 have A:=QA u;clear u;obtain⟨v,G,H⟩:=Option.bind_eq_some_iff.mp H;have A5:=QA G;clear G;obtain rfl:=Option.some.inj H
 go_enter Tryz.func118,Tryz.ntmps118
 try go_wp2_with (first |((with_reducible refine Qft (N:=2) rfl ?_);refine qq_e 2 #[.int .u64 j,.int .u32 l] 117 ?_;intro c hg w6 hbox hb;have n_:=qn4 (Qfj qq_b hb) (hbox) (qq_s hg:w.heap.size≤c) (qq_s hg:w.heap.size≤c);clear HB;obtain⟨HB,a,L,O⟩:=n_;clear hb hbox hg) |((with_reducible refine Qft (N:=3) rfl ?_);refine qq_e 3 #[.int .u64 p,.int .u32 q] 117 ?_;intro m hg w7 hbox hb;have n_:=qn7 (Qei (g:=c) (o:=.cells #[.int .u64 j,.int .u32 l] 117 (0,0)) qq_0 hb) (Qfj qq_b hb) (hbox) (qq_s hg:w.heap.size≤m) (qq_s hg:w.heap.size≤m) ((by rw[hg];exact Nat.ne_of_lt (Qdu (g:=c) (o:=.cells #[.int .u64 j,.int .u32 l] 117 (0,0)) qq_0):c≠m)) ((by rw[hg];exact Nat.ne_of_gt (Qdu (g:=c) (o:=.cells #[.int .u64 j,.int .u32 l] 117 (0,0)) qq_0):m≠c));clear a HB;obtain⟨a,HB,b,P,T,I,J⟩:=n_;clear hb hbox hg))
 have n_:=qn3 (Qeg a.out) (Qeg b.out) (Qfq HB.out);clear a b HB;obtain⟨a,b,HB⟩:=n_;refine Qge (n:=13) (S:=fun w'=>w'.cell? ⟨c,0,none⟩=some (.int .u64 j)∧w'.cell? ⟨c,1,none⟩=some (.int .u32 l)∧w'.cell? ⟨m,0,none⟩=some (.int .u64 p)∧w'.cell? ⟨m,1,none⟩=some (.int .u32 q)) (ds:=[]) (bm 13 0) qq_7 rfl rfl ⟨(Qdv a.out 0).trans rfl,(Qdv a.out 1).trans rfl,(Qdv b.out 0).trans rfl,(Qdv b.out 1).trans rfl⟩ (fun d=>?_);refine Qhs Qcr.tab1 Qcr.bits1 (fun HT_ HW_=>?_);generalize w7.drew=w8 at a b HB d ⊢;refine pz_ (i:=0) (N:=some 5) (bm 13 1) (Qhk HT_.out qq_7) ?_;refine pz_ (i:=2) (N:=some 7) (bm 13 5) (Qhk HT_.out qq_7) ?_;refine pz_ (i:=5) (N:=some 10) (bm 13 37) (Qhk HT_.out qq_7) ?_;refine pz_ (i:=7) (N:=some 12) (bm 13 165) (Qhk HT_.out qq_7) ?_;refine tz_ (i:=1) (N:=some 6) (bm 13 167) (Qhr HT_.out HW_.out qq_7) d ?_;refine tz_ (i:=3) (N:=some 8) (bm 13 175) (Qhr HT_.out HW_.out qq_7) d ?_;refine tz_ (i:=6) (N:=some 11) (bm 13 239) (Qhr HT_.out HW_.out qq_7) d ?_;refine tz_ (i:=8) (N:=some 13) (bm 13 495) (Qhr HT_.out HW_.out qq_7) d ?_;refine one_ (i:=4) (N:=some 9) (bm 13 511) rfl rfl (Qhl HT_.out qq_7) (by decide) (fun K hK=>?_);refine Qgl Tryz.func166 qq_7 rfl #[.int .u64 j,.int .u64 p] (by rfl) rfl rfl qq_1 ?_;with_reducible refine(Qag.calls j p s _ A3.out).mono ?_
 rintro e w' ⟨rfl,⟨nd,rfl⟩⟩;refine⟨_,rfl,?_⟩;refine hK.out _ _ ⟨(Qdv a.out 0).trans rfl,(Qdv a.out 1).trans rfl,(Qdv b.out 0).trans rfl,(Qdv b.out 1).trans rfl⟩ (fun d=>?_);clear hK K;refine nzp_ 9 ?_;refine one_ (i:=9) (N:=some 14) (bm 13 1023) rfl rfl (Qhl HT_.out qq_7) (by decide) (fun K hK=>?_);refine Qgl Tryz.func167 qq_7 rfl #[.int .u32 l,.int .u32 q] (by rfl) rfl rfl qq_1 ?_;with_reducible refine(Qaf.calls l q t _ A4.out).mono ?_
 rintro e w' ⟨rfl,⟨nd,rfl⟩⟩;refine⟨_,rfl,?_⟩;refine hK.out _ _ ⟨(Qdv a.out 0).trans rfl,(Qdv a.out 1).trans rfl,(Qdv b.out 0).trans rfl,(Qdv b.out 1).trans rfl⟩ (fun d=>?_);clear hK K;refine nzp_ 14 ?_;refine one_ (i:=10) (N:=some 15) (bm 13 2047) rfl rfl (Qhl HT_.out qq_7) (by decide) (fun K hK=>?_);refine Kd.R_lit_step (Kd.int .i64) _ 3 ?hg (N:=15) ?hd (xs:=([s,t]:List Int)) (inner:=[.int .i64 s,.int .i64 t]) (ok:=fun _=>True) (okp:=fun _=>True) ?hr ?hp (fun _ hk=>hk) trivial (Below.refl _ _) (Nat.le_refl _) (by simp) ?_;(case hd=>rfl);(case hg=>rfl);(case hr=>exact qq_18);(case hp=>exact(Reps.one (show Kd.M (Kd.int .i64) _ _ _ s [.int .i64 s] from rfl) (Reps.one (show Kd.M (Kd.int .i64) _ _ _ t [.int .i64 t] from rfl) (Reps.none _ _))));intro U w9 x hb hg_ hnew_;clear hg_ hnew_
 (first|rw[← A.out]at x |(simp only[Int.reduceToNat]at x;rw[← A.out]at x))
 have n_:=qn4 (Kd.R_lower x (Qfi qq_b)) (Qei (g:=c) (o:=.cells #[.int .u64 j,.int .u32 l] 117 (0,0)) qq_0 hb) (Qei (g:=m) (o:=.cells #[.int .u64 p,.int .u32 q] 117 (0,0)) qq_0 hb) (Qfj qq_b hb);clear a b HB;obtain⟨y,a,b,HB⟩:=n_;clear hb x;obtain⟨Ao11,co11,eo11⟩:=Kd.R_slice y.out
 (first|subst eo11 |(injection eo11 with f1_ f2_ f3_;have f4_:=f1_.symm;have f5_:=f3_.symm;clear f1_ f2_ f3_;subst f4_;subst f5_))
 refine hK.out _ _ ⟨(Qdv a.out 0).trans rfl,(Qdv a.out 1).trans rfl,(Qdv b.out 0).trans rfl,(Qdv b.out 1).trans rfl⟩ (fun d=>?_);clear hK K;refine nzp_ 15 ?_;refine one_ (i:=11) (N:=some 16) (bm 13 4095) rfl rfl (Qhl HT_.out qq_7) (by decide) (fun K hK=>?_);refine Qgl Tryz.func165 qq_7 rfl #[.slice Ao11 z.length co11] (by rfl) rfl rfl qq_1 ?_;with_reducible refine(Qah.calls k _ _ z v _ ?side1 ?side2 A5.out).mono ?_
 (case side1=>repeat(first|exact(Kd.R_reads' y.out).2.2 |(with_reducible refine Kd.C_alloc ?_ _) |(with_reducible refine Kd.C_drewN ?_ _) |(with_reducible refine Kd.C_drew ?_)))
 (case side2=>exact(Kd.R_reads' y.out).2.1)
 rintro e w' ⟨rfl,⟨nd,rfl⟩⟩;refine⟨_,rfl,?_⟩;refine hK.out _ _ ⟨(Qdv a.out 0).trans rfl,(Qdv a.out 1).trans rfl,(Qdv b.out 0).trans rfl,(Qdv b.out 1).trans rfl⟩ (fun d=>?_);clear hK K;refine nzp_ 16 ?_;refine pz_ (i:=12) (N:=some 4) (bm 13 8191) (Qhk HT_.out qq_7) ?_;refine Qgh (Qhn HT_.out qq_7) ?_
 try go_wp2
 go_ret
 exact⟨qq_2,qq_b⟩
def Qcs.l0:Nat→List (S117)→Int→Option (Bool)
 | 0,_,_=>none
 | k+1,x0,x3=>if x3<(x0.length:Int)then(if 0≤(wrap64 (x3-1))then(if(wrap64 (x3-1))<(x0.length:Int)then(if 0≤x3 then((Qcr.f k ((Qiz x0 (wrap64 (x3-1))).f0) ((Qiz x0 (wrap64 (x3-1))).f1) ((Qiz x0 x3).f0) ((Qiz x0 x3).f1)).bind fun t225=>(if t225≥0 then(some false)else(Qcs.l0 k x0 (wrap64 (x3+1)))))else(none))else(none))else(none))else(some true)
def Qcs.f(k:Nat)(l0:List (S117)):Option (Bool):=Qcs.l0 k l0 1
def Qcs.T4:Bool × List (List Nat × List Nat):=(true,[([],[]),([],[]),([1],[1]),([0,2],[0,2]),([3],[3]),([],[]),([],[]),([5,6],[5,6]),([7],[7]),([4,8],[4,8]),([9],[9])])
def Qcs.B4:List Nat:=[0,0,2,7,15,0,0,96,224,511,1023]
theorem Qcs.tab4:rtab .any (Qhu Tryz.f160 4)=Qcs.T4:=by kernel_rfl
theorem Qcs.bits4:Qho Qcs.T4.2 Qcs.B4=true:=by kernel_rfl
theorem Qcs.calls (k:Nat) (A0:Option Addr) (c0:Nat) (l0:List (S117)) (r:Bool) (w:World) (hr0:Kd.C k117 w A0 l0.length l0) (hc0:l0.length≤c0) (h:Qcs.f k l0=some r) :
  Calls Tryz.prog 160 #[.slice A0 l0.length c0] w fun e w'=>e=.returned (.bool r)∧Below w.heap.size w w':=by
 have hu117:=Tryz.underlying117;have z:=QA hr0;have L:=QA hc0;clear hr0 hc0;have HB:=QA (Below.refl w.heap.size w);have H:(Qcs.l0 k l0 1)=some r:=h;clear h;have H':=QA H;clear H
 go_enter Tryz.func160,Tryz.ntmps160
 go_wp2
 go_loopg [3] k (fun kq v3 w'=>∃(a:Int),v3=.int .i64 a∧Aside0 (Qcs.l0 kq l0 a=some r)∧Aside0 (kq≤k)∧Aside0 (Below w.heap.size w w'))
 case atStart=>exact⟨(1),qq_4,H',⟨Nat.le_refl _⟩,⟨qq_b⟩⟩
 case round =>
  clear H';obtain⟨a,rfl,HA,HK1,HB⟩:=hrel
  cases gk with
  | zero=>exact absurd HA.out (by simp[Qcs.l0])
  | succ k1 =>
   have H:=HA.out;clear HA;simp only[Qcs.l0]at H
   by_cases c2:a<(l0.length:Int)
   ·rw [if_pos c2]at H;have B:=decide_eq_true c2;clear c2;obtain⟨b,u⟩:∃j_:Int,(wrap64 (a-1))=j_:=⟨_,rfl⟩;replace H:(if 0≤(b)then(if(b)<(l0.length:Int)then(if 0≤a then((Qcr.f k1 ((Qiz l0 (b)).f0) ((Qiz l0 (b)).f1) ((Qiz l0 a).f0) ((Qiz l0 a).f1)).bind fun o=>(if o≥0 then(some false)else(Qcs.l0 k1 l0 (wrap64 (a+1)))))else(none))else(none))else(none))=some r:=by first |(rw[u]at H;exact H) |(simp only[u]at H ⊢;exact H)
    have E:(IntKind.i64.wrap (a-1))=b:=(Qgo _).trans u
    by_cases c4:0≤(b)
    ·rw [if_pos c4]at H;have G:=decide_eq_true c4;clear c4
     by_cases c5:(b)<(l0.length:Int)
     ·rw[if_pos c5]at H;have I:=decide_eq_true c5;clear c5
      by_cases c6:0≤a
      ·rw[if_pos c6]at H;have J:=decide_eq_true c6;clear c6;obtain⟨o,A,H⟩:=Option.bind_eq_some_iff.mp H;have A7:=QA A;clear A
       by_cases c8:o≥0
       ·rw[if_pos c8]at H;have D:decide (0≤o)=true:=decide_eq_true c8;clear c8;obtain rfl:=Option.some.inj H
        try go_wp2
        have n_:=qn1 (Qfq HB.out);clear HB;have HB:=n_;clear n_;have p:0≤((b):Int):=of_decide_eq_true qq_3;have q:(b)<(l0.length:Int):=of_decide_eq_true qq_3;obtain⟨c,x,d,g⟩:=Qja z.out (b) p q;have hw223_1:=g;have hw223_0:=d
        cases x
        replace d:=qq_h HB.out d;replace g:=qq_h HB.out g;replace p:=eq_true p;replace q:=eq_true q;have s:0≤(a:Int):=of_decide_eq_true qq_3;have t:a<(l0.length:Int):=of_decide_eq_true qq_3;obtain⟨v,y,j,l⟩:=Qja z.out a s t;have hw224_1:=l;have hw224_0:=j;obtain rfl:c=v:=(by injection y);replace j:=qq_h HB.out j;replace l:=qq_h HB.out l;replace s:=eq_true s;replace t:=eq_true t;refine Qge (n:=11) (S:=fun w'=>w'.cell? (c.add (((b)).toNat*2))=some (.int .u64 ((Qiz l0 (b)).f0))∧w'.cell? ⟨(c.add (((b)).toNat*2)).block,(c.add (((b)).toNat*2)).off+1,none⟩=some (.int .u32 ((Qiz l0 (b)).f1))∧w'.cell? (c.add ((a).toNat*2))=some (.int .u64 ((Qiz l0 a).f0))∧w'.cell? ⟨(c.add ((a).toNat*2)).block,(c.add ((a).toNat*2)).off+1,none⟩=some (.int .u32 ((Qiz l0 a).f1))) (ds:=[]) (bm 11 0) qq_7 rfl rfl ⟨((HB.out.cell (World.block_lt_of_cell? w _ hw223_0)).trans hw223_0),((HB.out.cell (World.block_lt_of_cell? w _ hw223_1)).trans hw223_1),((HB.out.cell (World.block_lt_of_cell? w _ hw224_0)).trans hw224_0),((HB.out.cell (World.block_lt_of_cell? w _ hw224_1)).trans hw224_1)⟩ (fun m=>?_);refine Qhs Qcs.tab4 Qcs.bits4 (fun HT_ HW_=>?_);generalize wr.drew=w9 at HB d g j l m ⊢;refine pz_ (i:=0) (N:=some 10) (bm 11 1) (Qhk HT_.out qq_7) ?_;refine pz_ (i:=1) (N:=some 11) (bm 11 3) (Qhk HT_.out qq_7) ?_;refine pz_ (i:=2) (N:=some 12) (bm 11 7) (Qhk HT_.out qq_7) ?_;refine pz_ (i:=3) (N:=some 13) (bm 11 15) (Qhk HT_.out qq_7) ?_;refine pz_ (i:=5) (N:=some 15) (bm 11 47) (Qhk HT_.out qq_7) ?_;refine pz_ (i:=6) (N:=some 16) (bm 11 111) (Qhk HT_.out qq_7) ?_;refine pz_ (i:=7) (N:=some 17) (bm 11 239) (Qhk HT_.out qq_7) ?_;refine tz_ (i:=4) (N:=some 14) (bm 11 255) (Qhr HT_.out HW_.out qq_7) m ?_;refine tz_ (i:=8) (N:=some 18) (bm 11 511) (Qhr HT_.out HW_.out qq_7) m ?_;refine one_ (i:=9) (N:=some 19) (bm 11 1023) rfl rfl (Qhl HT_.out qq_7) (by decide) (fun K hK=>?_);refine Qgl Tryz.func118 qq_7 rfl #[.agg #[.int .u64 ((Qiz l0 (b)).f0),.int .u32 ((Qiz l0 (b)).f1)],.agg #[.int .u64 ((Qiz l0 a).f0),.int .u32 ((Qiz l0 a).f1)]] (by rfl) rfl rfl (by(try simp only[List.map_toArray,List.map_cons,List.map_nil]);first|done |(simp only[u];rfl)|rfl |(simp only[List.length_drop,List.length_take];rfl)) ?_;with_reducible refine(Qcr.calls k1 ((Qiz l0 (b)).f0) ((Qiz l0 (b)).f1) ((Qiz l0 a).f0) ((Qiz l0 a).f1) o _ A7.out).mono ?_
        rintro e M ⟨rfl,hb⟩;refine⟨_,rfl,?_⟩;have n_:=qn1 (Qfj qq_b hb);clear HB;have HB:=n_;clear n_
        (try clear hb)
        (try clear hb2)
        (try clear hk)
        (try clear hi)
        refine hK.out _ _ ⟨((HB.out.cell (World.block_lt_of_cell? w _ hw223_0)).trans hw223_0),((HB.out.cell (World.block_lt_of_cell? w _ hw223_1)).trans hw223_1),((HB.out.cell (World.block_lt_of_cell? w _ hw224_0)).trans hw224_0),((HB.out.cell (World.block_lt_of_cell? w _ hw224_1)).trans hw224_1)⟩ (fun m=>?_);clear hK K;refine nzp_ 19 ?_;refine pz_ (i:=10) (N:=some 20) (bm 11 2047) (Qhk HT_.out qq_7) ?_;refine Qgh (Qhn HT_.out qq_7) ?_
        try go_wp2
        go_ret
        exact⟨by first|rfl |(simp[Qio,Qip]<;>rfl) |(simp only[← u];first|rfl |(simp[Qio,Qip]<;>rfl)) |(simp[*,Qio,Qip]<;>rfl),qq_b⟩
       ·rw[if_neg c8]at H;have D:decide (0≤o)=false:=decide_eq_false c8;clear c8;have H':=QA H;clear H
        try go_wp2
        have n_:=qn1 (Qfq HB.out);clear HB;have HB:=n_;clear n_;have p:0≤((b):Int):=of_decide_eq_true qq_3;have q:(b)<(l0.length:Int):=of_decide_eq_true qq_3;obtain⟨c,x,d,g⟩:=Qja z.out (b) p q;have hw223_1:=g;have hw223_0:=d
        cases x
        replace d:=qq_h HB.out d;replace g:=qq_h HB.out g;replace p:=eq_true p;replace q:=eq_true q;have s:0≤(a:Int):=of_decide_eq_true qq_3;have t:a<(l0.length:Int):=of_decide_eq_true qq_3;obtain⟨v,y,j,l⟩:=Qja z.out a s t;have hw224_1:=l;have hw224_0:=j;obtain rfl:c=v:=(by injection y);replace j:=qq_h HB.out j;replace l:=qq_h HB.out l;replace s:=eq_true s;replace t:=eq_true t;refine Qge (n:=11) (S:=fun w'=>w'.cell? (c.add (((b)).toNat*2))=some (.int .u64 ((Qiz l0 (b)).f0))∧w'.cell? ⟨(c.add (((b)).toNat*2)).block,(c.add (((b)).toNat*2)).off+1,none⟩=some (.int .u32 ((Qiz l0 (b)).f1))∧w'.cell? (c.add ((a).toNat*2))=some (.int .u64 ((Qiz l0 a).f0))∧w'.cell? ⟨(c.add ((a).toNat*2)).block,(c.add ((a).toNat*2)).off+1,none⟩=some (.int .u32 ((Qiz l0 a).f1))) (ds:=[]) (bm 11 0) qq_7 rfl rfl ⟨((HB.out.cell (World.block_lt_of_cell? w _ hw223_0)).trans hw223_0),((HB.out.cell (World.block_lt_of_cell? w _ hw223_1)).trans hw223_1),((HB.out.cell (World.block_lt_of_cell? w _ hw224_0)).trans hw224_0),((HB.out.cell (World.block_lt_of_cell? w _ hw224_1)).trans hw224_1)⟩ (fun m=>?_);refine Qhs Qcs.tab4 Qcs.bits4 (fun HT_ HW_=>?_);generalize wr.drew=w11 at HB d g j l m ⊢;refine pz_ (i:=0) (N:=some 10) (bm 11 1) (Qhk HT_.out qq_7) ?_;refine pz_ (i:=1) (N:=some 11) (bm 11 3) (Qhk HT_.out qq_7) ?_;refine pz_ (i:=2) (N:=some 12) (bm 11 7) (Qhk HT_.out qq_7) ?_;refine pz_ (i:=3) (N:=some 13) (bm 11 15) (Qhk HT_.out qq_7) ?_;refine pz_ (i:=5) (N:=some 15) (bm 11 47) (Qhk HT_.out qq_7) ?_;refine pz_ (i:=6) (N:=some 16) (bm 11 111) (Qhk HT_.out qq_7) ?_;refine pz_ (i:=7) (N:=some 17) (bm 11 239) (Qhk HT_.out qq_7) ?_;refine tz_ (i:=4) (N:=some 14) (bm 11 255) (Qhr HT_.out HW_.out qq_7) m ?_;refine tz_ (i:=8) (N:=some 18) (bm 11 511) (Qhr HT_.out HW_.out qq_7) m ?_;refine one_ (i:=9) (N:=some 19) (bm 11 1023) rfl rfl (Qhl HT_.out qq_7) (by decide) (fun K hK=>?_);refine Qgl Tryz.func118 qq_7 rfl #[.agg #[.int .u64 ((Qiz l0 (b)).f0),.int .u32 ((Qiz l0 (b)).f1)],.agg #[.int .u64 ((Qiz l0 a).f0),.int .u32 ((Qiz l0 a).f1)]] (by rfl) rfl rfl (by(try simp only[List.map_toArray,List.map_cons,List.map_nil]);first|done |(simp only[u];rfl)|rfl |(simp only[List.length_drop,List.length_take];rfl)) ?_;with_reducible refine(Qcr.calls k1 ((Qiz l0 (b)).f0) ((Qiz l0 (b)).f1) ((Qiz l0 a).f0) ((Qiz l0 a).f1) o _ A7.out).mono ?_
        rintro e O ⟨rfl,hb⟩;refine⟨_,rfl,?_⟩;have n_:=qn1 (Qfj qq_b hb);clear HB;have HB:=n_;clear n_
        (try clear hb)
        (try clear hb2)
        (try clear hk)
        (try clear hi)
        refine hK.out _ _ ⟨((HB.out.cell (World.block_lt_of_cell? w _ hw223_0)).trans hw223_0),((HB.out.cell (World.block_lt_of_cell? w _ hw223_1)).trans hw223_1),((HB.out.cell (World.block_lt_of_cell? w _ hw224_0)).trans hw224_0),((HB.out.cell (World.block_lt_of_cell? w _ hw224_1)).trans hw224_1)⟩ (fun m=>?_);clear hK K;refine nzp_ 19 ?_;refine pz_ (i:=10) (N:=some 20) (bm 11 2047) (Qhk HT_.out qq_7) ?_;refine Qgh (Qhn HT_.out qq_7) ?_
        try go_wp2
        go_roundg k1
        case measure=>have:=HK1.out;omega
        case rel=>exact⟨(wrap64 (a+1)),qq_4,H',⟨by have:=HK1.out;omega⟩,⟨qq_b⟩⟩
      ·rw[if_neg c6]at H;exact absurd H (by simp)
     ·rw[if_neg c5]at H;exact absurd H (by simp)
    ·rw[if_neg c4]at H;exact absurd H (by simp)
   ·rw[if_neg c2]at H;have B:=decide_eq_false c2;clear c2;obtain rfl:=Option.some.inj H;go_wp2;go_ret
    exact⟨qq_2,qq_b⟩
theorem eqA117(d:Nat)(w:World)(x0 y0:Int)(x1 y1:Int) :
  (Op.equalIn (d+2) 117 (.agg #[.int .u64 x0,.int .u32 x1]) (.agg #[.int .u64 y0,.int .u32 y1])).run Tryz.prog w=.ok (x0 == y0 && (x1 == y1)) w:=by
 refine eqA_of Tryz.underlying117 qq_7 ?_;refine Qhz (by rfl) (by go_simp;rfl) (by go_simp;rfl) (by go_simp) ?_;exact Qhy (by rfl) (by go_simp;rfl) (by go_simp;rfl) (by go_simp)
def fascicleref11_Text.T5:Bool × List (List Nat × List Nat):=(true,[([],[]),([],[]),([1],[1]),([2],[2]),([0,3],[0,3]),([],[]),([5],[5]),([6],[6]),([7,3],[7]),([4,8],[4,8]),([9,8,0,1,2,3,4,5,6,7,8,9],[0,9])])
end Go.Proofs.YtnnofopfbeklbaaGreat.C
end
section
namespace Go.Proofs.YtnnofopfbeklbaaGreat.C
open Go.RowKit Go.Proofs.YtnnofopfbeklbaaGreatW.PrintWords Go.Proofs.YtnnofopfbeklbaaGreatW.PrintLast Go.Proofs.YtnnofopfbeklbaaGreatW.PrintMore
abbrev R8(W:World)(b:Nat)(v:Value)(xs:List Int):Prop:=Kd.R (Kd.int .u8) 5 W b (fun _=>True) v xs
def IsBuf(W:World)(b g:Nat)(xs:List Int):Prop:=∃v,W.heap[g]? = some (.cells #[v] 167 (0,0))∧R8 W b v xs
def leb:Int→Nat→List Int
 | _,0=>[]
 | x,n+1=>x%256 :: leb (x/256) n
theorem Qjn:∀(n:Nat) (x:Int),(leb x n).length=n
 | 0,_=>rfl
 | n+1,x=>by simp[leb,Qjn n]
theorem R8.lit(W:World)(b:Nat)(hb:b≤W.heap.size)(xs:List Int)(hm:xs.length≤9223372036854775807):R8 (W.alloc (.cells (nums .u8 xs).toArray 5)) b (.slice (some ⟨W.heap.size,0,none⟩) xs.length xs.length) xs :=
 Kd.R_of_own (own_lit W b 5 .u8 xs hb hm) (fun _ _=>trivial)
theorem R8.clean{W:World}{b g t:Nat}{v:Value}{xs:List Int}{cs:Array Value}(h:R8 W b v xs)(hg:W.heap[g]? = some (.cells cs t (0,0)))(ht:5≠t):some g≠v.ownBlock:=Kd.R_ne h hg ht
theorem R8.set{W:World}{b g t:Nat}{v:Value}{xs:List Int}{cs:Array Value}(h:R8 W b v xs)(hg:W.heap[g]? = some (.cells cs t (0,0)))(ht:5≠t)(j:Nat)(u:Value):R8 (W.setCell ⟨g,j,none⟩ u) b v xs :=
 Kd.R_set h hg (by intro q hq;rcases List.mem_cons.1 hq with rfl|hq;exact ht;cases hq) j u
theorem R8.kept{W W':World}{b:Nat}{v:Value}{xs:List Int}(h:R8 W b v xs)(hb:Below W.heap.size W W'):R8 W' b v xs:=Kd.R_below h hb
theorem R8.low{W:World}{b b':Nat}{v:Value}{xs:List Int}(h:R8 W b v xs)(hb:b'≤b):R8 W b' v xs:=Kd.R_lower h hb
theorem R8.shape{W:World}{b:Nat}{v:Value}{xs:List Int}(h:R8 W b v xs):∃A n c,v=.slice A n c:=by
 obtain⟨A,c,e⟩:=Kd.R_slice h;exact⟨A,_,c,e⟩
theorem IsBuf.kept{W W':World}{b g:Nat}{xs:List Int}(h:IsBuf W b g xs)(hb:Below W.heap.size W W'):IsBuf W' b g xs:=by
 obtain⟨v,h1,h2⟩:=h;exact⟨v,Qei h1 hb,h2.kept hb⟩
theorem IsBuf.lt{W:World}{b g:Nat}{xs:List Int}(h:IsBuf W b g xs):g<W.heap.size:=by
 obtain⟨v,h1,h2⟩:=h;exact Qdu h1
theorem IsBuf.put{W w1:World}{b g:Nat}{v v1:Value}{xs ys:List Int}(hv:W.heap[g]? = some (.cells #[v] 167 (0,0)))(hR:R8 W b v xs)(hg:W.grownBy w1 v.ownBlock)(h1:R8 w1 b v1 ys) :
  w1.heap[g]? = some (.cells #[v] 167 (0,0))∧IsBuf (w1.setCell ⟨g,0,none⟩ v1) b g ys:=by
 have hv1:=Qdx hv hg (hR.clean hv (by decide));exact⟨hv1,v1,Qds hv1 0 v1,h1.set hv1 (by decide) 0 v1⟩
theorem Qjo{b:Nat}{w W:World}{g j:Nat}{v:Value}(h:Below b w W)(hg:b≤g):Below b w (W.setCell ⟨g,j,none⟩ v):=h.setCell hg _
theorem Qjp{b b':Nat}{w W:World}(h:Below b w W)(hb:b'≤b):Below b' w W:=⟨h.os,h.tape,h.output,h.size,fun i hi=>h.block i (by omega)⟩
def Tk(g:Nat)(w w':World):Prop:=∀k cs t,w.heap[k]? = some (.cells cs t (0,0))→t≠5→k≠g→w'.heap[k]? = some (.cells cs t (0,0))
def Bw(b g:Nat)(w w':World):Prop:=Below b w w'∧Tk g w w'
theorem Tk.refl(g:Nat)(w:World):Tk g w w:=fun _ _ _ h _ _=>h
theorem Tk.trans{g:Nat}{a b c:World}(h:Tk g a b)(k:Tk g b c):Tk g a c:=fun _ _ _ h1 h2 h3=>k _ _ _ (h _ _ _ h1 h2 h3) h2 h3
theorem Tk.below{g:Nat}{w w':World}(h:Below w.heap.size w w'):Tk g w w':=fun _ _ _ h1 _ _=>Qei h1 h
theorem Bw.refl(b g:Nat)(w:World):Bw b g w w:=⟨Below.refl _ _,Tk.refl _ _⟩
theorem Bw.trans{b g:Nat}{x y z:World}(h:Bw b g x y)(k:Bw b g y z):Bw b g x z:=⟨h.1.trans k.1,h.2.trans k.2⟩
theorem Bw.below{b g:Nat}{w w':World}(h:Below w.heap.size w w')(hb:b≤w.heap.size):Bw b g w w':=⟨Qjp h hb,Tk.below h⟩
theorem Bw.size{b g:Nat}{w w':World}(h:Bw b g w w'):w.heap.size≤w'.heap.size:=h.1.size
theorem Bw.put{W w1:World}{b g:Nat}{v v1:Value}{xs:List Int}(hbg:b≤g)(hv:W.heap[g]? = some (.cells #[v] 167 (0,0)))(hR:R8 W b v xs)(hb:Below b W w1)(hg:W.grownBy w1 v.ownBlock):Bw b g W (w1.setCell ⟨g,0,none⟩ v1):=by
 refine⟨Qjo hb hbg,fun k cs t h1 h2 h3=>?_⟩;have hne:some k≠v.ownBlock:=Kd.R_ne hR h1 (fun e=>h2 e.symm);have h4:=Qdx h1 hg hne;exact Qdt h4 h3 v1
theorem Qjq(A0:Option Addr)(c0:Nat)(l0:List Int)(w:World)(hr0:Kd.C (Kd.int .u8) w A0 l0.length l0)(hl:l0.length≤140737488355328) :
  Calls Tryz.prog 70 #[.slice A0 l0.length c0] w fun e w'=>∃b:Value,e=.returned (b)∧R8 w' w.heap.size b l0∧Below w.heap.size w w':=by
 have hu:=Tryz.underlying52;have g:∀(w:World) (a:Option Addr) (n c n' c':Nat),(binOp .eql 52 (.slice a n c) (.slice none n' c')).run Tryz.prog w=.ok (.bool a.isNone) w:=fun w a n c n' c'=>Lib.run_eql_slice_nil w _ _ a n c n' c' hu
 cases A0 with
 | none =>
  obtain rfl:l0=[]:=by
   cases l0 with
   | nil=>rfl
   | cons a t=>obtain⟨ad,c,h1,_⟩:=Kd.C_get hr0 0 0 (by omega) (by simp);cases h1
  go_enter Tryz.func70,Tryz.ntmps70
  go_wp2;go_ret
  exact⟨_,rfl,Kd.R_nil _ _ _ _ _,Below.refl _ _⟩
 | some ad =>
  go_enter Tryz.func70,Tryz.ntmps70
  go_wp2_with (first |(at_builtin;refine Kd.R_append_row (Value.int .u8) (0:Int) (h1:=fun _=>rfl) (w0:=w) w.heap.size rfl (.tmp 5) (.tmp 6) 52 5 (.int .u8 0) 1 rfl Tryz.underlying52 Qiq rfl (by decide) _ [] l0 (some ad) l0.length c0 (fun _=>True) rfl rfl (fun _ _=>trivial) ?hO ?hR ?hB ?hS ?hL ?_;(case hO=>exact R8.lit w w.heap.size (Nat.le_refl _) [] (by simp));(case hR=>exact Kd.C_below hr0 (Qcw (Below.refl _ _) _));(case hB=>exact Qcw (Below.refl _ _) _);(case hS=>simp);(case hL=>simp;omega);intro v1 w1 d hb1 h hat1;simp only[List.nil_append]at d))
  go_ret
  exact⟨_,rfl,d,hb1⟩
def Ow(g:Nat)(w w':World):Prop:=∀(k:Nat) (o:Obj) (v:Value),w.heap[g]? = some (.cells #[v] 167 (0,0))→w.heap[k]? = some o→k≠g→some k≠v.ownBlock →
 w'.heap[k]? = some o∧∃v',w'.heap[g]? = some (.cells #[v'] 167 (0,0))∧some k≠v'.ownBlock
theorem Ow.refl(g:Nat)(w:World):Ow g w w:=fun k o v h1 h2 _ h4=>⟨h2,v,h1,h4⟩
theorem Ow.trans{g:Nat}{a b c:World}(h:Ow g a b)(h':Ow g b c):Ow g a c:=fun k o v h1 h2 h3 h4=>by
 obtain⟨h5,v',h6,h7⟩:=h k o v h1 h2 h3 h4;exact h' k o v' h6 h5 h3 h7
theorem Ow.put{W w1:World}{g:Nat}{v v1:Value}(hv:W.heap[g]? = some (.cells #[v] 167 (0,0)))(hg:W.grownBy w1 v.ownBlock)(hv1:w1.heap[g]? = some (.cells #[v] 167 (0,0)))(hat:v1.ownBlock=v.ownBlock∨∃b,v1.ownBlock=some b∧W.heap.size≤b):Ow g W (w1.setCell ⟨g,0,none⟩ v1):=by
 intro k o v0 h1 h2 h3 h4;rw[hv]at h1;obtain rfl:v=v0:=by
  have:=Option.some.inj h1
  injection this with h
  injection h with h
  injection h
 refine⟨(Below.heap_setCell w1 ⟨g,0,none⟩ v1 k h3).trans (Qdx h2 hg h4),v1,Qds hv1 0 v1,?_⟩
 rcases hat with h |⟨b,h,hb⟩
 ·rw[h];exact h4
 ·rw[h];intro e;have:=Qdu h2;have e2:=Option.some.inj e;omega
theorem Qjr(b g:Nat)(x:Int)(n:Nat)(xs:List Int)(w:World)(d:0≤x)(h:x<18446744073709551616)(hbg:b≤g)(hbw:b≤w.heap.size)(hI:IsBuf w b g xs)(hl:xs.length+n≤140737488355328) :
  Calls Tryz.prog 149 #[.pointer (some ⟨g,0,none⟩),.int .u64 x,.int .i64 n] w fun e w'=>e=.returned (.pointer (some ⟨g,0,none⟩))∧IsBuf w' b g (xs++leb x n)∧Bw b g w w'∧Ow g w w':=by
 have HI:=QA hI;clear hI
 go_enter Tryz.func149,Tryz.ntmps149
 go_wp2
 go_loopw [1,8] (fun v1 v8 wr=>∃(k:Nat) (ys:List Int) (iv xv:Int),k≤n∧ys.length=k∧v8=.int .i64 iv∧v1=.int .u64 xv∧0≤xv∧xv<18446744073709551616∧Aside0 (iv=(k:Int))∧Aside0 (leb x n=ys++leb xv (n-k))∧Aside0 (IsBuf wr b g (xs++ys))∧Aside0 (Bw b g w wr)∧Aside0 (Ow g w wr))
  (fun _ v8 _=>n-(intOf v8).toNat)
 case atStart=>exact⟨0,[],0,x,Nat.zero_le _,rfl,rfl,rfl,d,h,⟨rfl⟩,⟨rfl⟩,⟨by simpa using HI.out⟩,⟨Bw.refl _ _ _⟩,⟨Ow.refl _ _⟩⟩
 case round =>
  obtain⟨k,ys,iv,xv,hk,hys,rfl,rfl,m,o,HK,HL,HB,HW,HO⟩:=hrel
  by_cases hlt:k<n
  ·have hlt2:iv<(n:Int):=by have:=HK.out;omega
   have hge:0≤iv:=by have:=HK.out;omega
   obtain⟨v,hv,hR⟩:=HB.out;have hc:wr.cell? ⟨g,0,none⟩=some v:=(Qdv hv 0).trans rfl;have HV:=QA hv;have HR:=QA hR;clear hv hR
   go_wp2_with ((at_builtin;refine Kd.R_append (Kd.int .u8) (w0:=wr) b rfl (.tmp 14) (.tmp 17) 52 5 (.int .u8 0) 1 rfl Tryz.underlying52 Qiq rfl (by decide) (by omega) v (xs++ys) (xv%256) [.int .u8 (xv%256)] (fun _=>True) (fun _=>False) rfl ?ax ?aP (fun _ hk=>hk.elim) ?aF ?aO ?aB ?aS ?aL ?_;(case ax=>rfl);(case aP=>rfl);(case aF=>exact fun _ _=>trivial);(case aO=>exact HR.out);(case aB=>exact Below.refl _ _);(case aS=>exact Nat.le_trans hbw HW.out.size);(case aL=>simp;omega);intro v1 w1 c hb1 a hat1;obtain⟨A1,n1,c1,rfl⟩:=R8.shape c;obtain⟨hv1,hI1⟩:=IsBuf.put HV.out HR.out a c;have hfz:=Qdw hv1 0;have hc1:w1.cell? ⟨g,0,none⟩=some v:=(Qdv hv1 0).trans rfl;have HI1:=QA hI1;have j:=QA (HO.out.trans (Ow.put (v1:=.slice A1 n1 c1) HV.out a hv1 hat1));have l:=QA (HW.out.trans (Bw.put (v1:=.slice A1 n1 c1) hbg HV.out HR.out hb1 a));clear hI1 hb1 a hat1 c hv1))
   go_roundw
   case rel=>exact⟨k+1,ys++[xv%256],iv+1,xv/256,by omega,by simp[hys],by go_num,by go_num,by omega,by omega,⟨by have:=HK.out;omega⟩,⟨by
    rw[HL.out,show n-k=(n-(k+1))+1 by omega,leb];simp⟩,⟨by rw[← List.append_assoc];exact HI1.out⟩,⟨l.out⟩,⟨j.out⟩⟩
   case measure=>simp[intOf];omega
  ·obtain rfl:k=n:=by omega
   have e1:iv=(k:Int):=HK.out;subst e1;go_wp2;go_ret
   refine⟨rfl,?_,HW.out,HO.out⟩;have e:=HL.out;rw[Nat.sub_self]at e;rw[e]
   simpa [leb]using HB.out
theorem Qjs(b g:Nat)(x:Int)(n:Nat)(xs:List Int)(w:World)(hx0:0≤x)(hx1:x<18446744073709551616)(hbg:b≤g)(hbw:b≤w.heap.size)(hI:IsBuf w b g xs)(hl:xs.length+n≤140737488355328) :
  Calls Tryz.prog 149 #[.pointer (some ⟨g,0,none⟩),.int .u64 x,.int .i64 n] w fun e w'=>e=.returned (.pointer (some ⟨g,0,none⟩))∧IsBuf w' b g (xs++leb x n)∧Bw b g w w':=(Qjr b g x n xs w hx0 hx1 hbg hbw hI hl).mono (by rintro e w' ⟨h1,h2,h3,_⟩;exact⟨h1,h2,h3⟩)
theorem Qjt(b g:Nat)(x:Int)(xs:List Int)(w:World)(hx0:0≤x)(hx1:x<256)(hbg:b≤g)(hbw:b≤w.heap.size)(hI:IsBuf w b g xs)(hl:xs.length+1≤140737488355328) :
  Calls Tryz.prog 94 #[.pointer (some ⟨g,0,none⟩),.int .u8 x] w fun e w'=>e=.returned (.pointer (some ⟨g,0,none⟩))∧IsBuf w' b g (xs++[x])∧Bw b g w w':=by
 go_enter Tryz.func94,Tryz.ntmps94
 go_wp2_with (go_at_call 149;refine(Qjs b g x 1 xs w hx0 (by omega) hbg hbw hI hl).mono ?_;rintro e w' ⟨rfl,hd,hb⟩)
 go_ret
 refine⟨rfl,?_,hb⟩;have e:leb x 1=[x]:=by simp[leb];omega
 rw[e]at hd;exact hd
theorem Qju(b g:Nat)(x:Int)(xs:List Int)(w:World)(hx0:0≤x)(hx1:x<4294967296)(hbg:b≤g)(hbw:b≤w.heap.size)(hI:IsBuf w b g xs)(hl:xs.length+4≤140737488355328) :
  Calls Tryz.prog 112 #[.pointer (some ⟨g,0,none⟩),.int .u32 x] w fun e w'=>e=.returned (.pointer (some ⟨g,0,none⟩))∧IsBuf w' b g (xs++leb x 4)∧Bw b g w w'∧Ow g w w':=by
 go_enter Tryz.func112,Tryz.ntmps112
 go_wp2_with (go_at_call 149;refine(Qjr b g x 4 xs w hx0 (by omega) hbg hbw hI hl).mono ?_;rintro e w' ⟨rfl,hd,hb,ho⟩)
 go_ret
 exact⟨rfl,hd,hb,ho⟩
theorem Qjv(b g:Nat)(x:Int)(xs:List Int)(w:World)(hx0:0≤x)(hx1:x<4294967296)(hbg:b≤g)(hbw:b≤w.heap.size)(hI:IsBuf w b g xs)(hl:xs.length+4≤140737488355328) :
  Calls Tryz.prog 112 #[.pointer (some ⟨g,0,none⟩),.int .u32 x] w fun e w'=>e=.returned (.pointer (some ⟨g,0,none⟩))∧IsBuf w' b g (xs++leb x 4)∧Bw b g w w':=(Qju b g x xs w hx0 hx1 hbg hbw hI hl).mono (by rintro e w' ⟨h1,h2,h3,_⟩;exact⟨h1,h2,h3⟩)
theorem Qjw(b g:Nat)(x:Int)(xs:List Int)(w:World)(hx0:0≤x)(hx1:x<18446744073709551616)(hbg:b≤g)(hbw:b≤w.heap.size)(hI:IsBuf w b g xs)(hl:xs.length+8≤140737488355328) :
  Calls Tryz.prog 151 #[.pointer (some ⟨g,0,none⟩),.int .u64 x] w fun e w'=>e=.returned (.pointer (some ⟨g,0,none⟩))∧IsBuf w' b g (xs++leb x 8)∧Bw b g w w':=by
 go_enter Tryz.func151,Tryz.ntmps151
 go_wp2_with (go_at_call 149;refine(Qjs b g x 8 xs w hx0 hx1 hbg hbw hI hl).mono ?_;rintro e w' ⟨rfl,hd,hb⟩)
 go_ret
 exact⟨rfl,hd,hb⟩
theorem Qjx(b g:Nat)(A0:Option Addr)(c0:Nat)(ys:List Int)(xs:List Int)(w:World)(hr0:Kd.C (Kd.int .u8) w A0 ys.length ys)(hbg:b≤g)(hbw:b≤w.heap.size)(hI:IsBuf w b g xs)(hl:xs.length+ys.length≤140737488355328) :
  Calls Tryz.prog 150 #[.pointer (some ⟨g,0,none⟩),.slice A0 ys.length c0] w fun e w'=>e=.returned (.pointer (some ⟨g,0,none⟩))∧IsBuf w' b g (xs++ys)∧Bw b g w w'∧Ow g w w':=by
 obtain⟨v,hv,hR⟩:=hI;have hc:w.cell? ⟨g,0,none⟩=some v:=(Qdv hv 0).trans rfl
 go_enter Tryz.func150,Tryz.ntmps150
 go_wp2_with (first |(at_builtin;refine Kd.R_append_row (Value.int .u8) (0:Int) (h1:=fun _=>rfl) (w0:=w) b rfl (.tmp 9) (.tmp 10) 52 5 (.int .u8 0) 1 rfl Tryz.underlying52 Qiq rfl (by decide) v xs ys A0 ys.length c0 (fun _=>True) rfl rfl (fun _ _=>trivial) ?hO ?hR ?hB ?hS ?hL ?_;(case hO=>exact hR);(case hR=>exact hr0);(case hB=>exact Below.refl _ _);(case hS=>exact hbw);(case hL=>omega);intro v1 w1 HR1 hb1 hg1 hat1;obtain⟨A1,n1,c1,rfl⟩:=R8.shape HR1;obtain⟨hv1,hI1⟩:=IsBuf.put hv hR hg1 HR1;have hfz:=Qdw hv1 0;have hc1:w1.cell? ⟨g,0,none⟩=some v:=(Qdv hv1 0).trans rfl;have HI1:=QA hI1;have HO1:=QA (Ow.put (v1:=.slice A1 n1 c1) hv hg1 hv1 hat1);have HB1:=QA (Bw.put (v1:=.slice A1 n1 c1) hbg hv hR hb1 hg1);clear hI1 hb1 hg1 hat1 HR1 hv1))
 go_ret
 exact⟨rfl,HI1.out,HB1.out,HO1.out⟩
theorem Qjy(b g:Nat)(A0:Option Addr)(c0:Nat)(ys:List Int)(xs:List Int)(w:World)(hr0:Kd.C (Kd.int .u8) w A0 ys.length ys)(hbg:b≤g)(hbw:b≤w.heap.size)(hI:IsBuf w b g xs)(hl:xs.length+ys.length≤140737488355328) :
  Calls Tryz.prog 150 #[.pointer (some ⟨g,0,none⟩),.slice A0 ys.length c0] w fun e w'=>e=.returned (.pointer (some ⟨g,0,none⟩))∧IsBuf w' b g (xs++ys)∧Bw b g w w':=(Qjx b g A0 c0 ys xs w hr0 hbg hbw hI hl).mono (by rintro e w' ⟨h1,h2,h3,_⟩;exact⟨h1,h2,h3⟩)
theorem Qjz(b g:Nat)(A0:Option Addr)(c0 n:Nat)(ys:List Int)(xs:List Int)(w:World)(hn:n=ys.length)(hr0:Kd.C (Kd.int .u8) w A0 n ys)(hbg:b≤g)(hbw:b≤w.heap.size)(hI:IsBuf w b g xs)(hl:xs.length+n≤140737488355328) :
  Calls Tryz.prog 150 #[.pointer (some ⟨g,0,none⟩),.slice A0 n c0] w fun e w'=>e=.returned (.pointer (some ⟨g,0,none⟩))∧IsBuf w' b g (xs++ys)∧Bw b g w w':=by
 subst hn;exact Qjy b g A0 c0 ys xs w hr0 hbg hbw hI hl
theorem Qka(b g:Nat)(xs:List Int)(w:World)(hI:IsBuf w b g xs)(hl:xs.length≤140737488355328) :
  Calls Tryz.prog 97 #[.pointer (some ⟨g,0,none⟩)] w fun e w'=>∃v:Value,e=.returned v∧R8 w' w.heap.size v xs∧Below w.heap.size w w':=by
 obtain⟨v,hv,hR⟩:=hI;obtain⟨A,c,rfl,hlc,hC⟩:=Kd.R_reads hR;have hc:w.cell? ⟨g,0,none⟩=some (.slice A xs.length c):=(Qdv hv 0).trans rfl
 go_enter Tryz.func97,Tryz.ntmps97
 go_wp2_with (go_at_call 70;refine(Qjq A c xs w hC hl).mono ?_;rintro e w' ⟨v1,rfl,hd,hb⟩)
 go_ret
 exact⟨_,rfl,hd,hb⟩
abbrev Q1:Int:=11400714785074694791
abbrev Q2:Int:=14029467366897019727
abbrev Q3:Int:=1609587929392839161
abbrev Q4:Int:=9650029242287828579
abbrev Q5:Int:=2870177450012600261
def IsSt(W:World)(b g:Nat)(sd v0 v1 v2 v3:Int)(rest:List Int)(n:Int):Prop :=
 ∃rv,W.heap[g]? = some (.cells #[.int .u64 sd,.int .u64 v0,.int .u64 v1,.int .u64 v2,.int .u64 v3,rv,.int .u64 n] 274 (0,0))∧R8 W b rv rest
theorem st_New(sd:Int)(w:World) :
  Calls Tryz.prog 155 #[.int .u64 sd] w fun e w'=>e=.returned (.pointer (some ⟨w.heap.size,0,none⟩))∧IsSt w' w.heap.size w.heap.size sd (IntKind.u64.wrap (IntKind.u64.wrap (sd+Q1)+Q2)) (IntKind.u64.wrap (sd+Q2)) sd (IntKind.u64.wrap (sd-Q1)) [] 0∧Below w.heap.size w w':=by
 have hu:=Tryz.underlying274;have hu2:=Tryz.underlying231
 go_enter Tryz.func155,Tryz.ntmps155
 go_wp2_with fail
 go_region
 go_wp2_with fail
 go_region
 go_wp2_with fail
 go_region
 go_wp2_with fail
 go_region
 go_wp2_with fail
 go_ret
 refine⟨rfl,⟨_,Qej w _,Kd.R_nil _ _ _ _ _⟩,Qcx (Qcx (Qcx (Qcx (Qcw (Below.refl _ _) _))))⟩
def rotP(x n:Int):Int:=(Qac.f x n).getD 0
theorem Qkb(x n:Int)(h:0≤n∧n<64∧Go.bits .and .u64 (IntKind.u64.wrap n) 63=n):Qac.f x n=some (rotP x n):=by
 unfold rotP Qac.f;rw[h.2.2,if_pos h.1,if_pos (by rw[IntWalk.u64_in _ (by omega)];omega)];rfl
def Qkc(x y:Int):Int:=(Qct.f x y).getD 0
theorem into_is(x y:Int):Qct.f x y=some (Qkc x y):=by
 unfold Qkc Qct.f;rw[Qkb _ 31 ⟨by decide,by decide,by kernel_rfl⟩];rfl
def numP(n:Nat)(l:List Int):Int:=(Qcu.f (n+1) l n).getD 0
theorem num8_is(l:List Int)(h:8≤l.length):Qcu.f 9 l 8=some (numP 8 l):=by
 obtain⟨v,hv⟩:∃v,Qcu.f 9 l 8=some v:=by
  simp[Qcu.f,Qcu.l0,show(1:Int)<l.length by omega,show(2:Int)<l.length by omega,show(3:Int)<l.length by omega,show(4:Int)<l.length by omega,show(5:Int)<l.length by omega,show(6:Int)<l.length by omega,show(7:Int)<l.length by omega,show(0:Int)<l.length by omega,wrap64];omega
 unfold numP;rw[show(8:Nat)+1=9 from rfl,show(((8:Nat):Int))=8 from rfl,hv];rfl
theorem num4_is(l:List Int)(h:4≤l.length):Qcu.f 5 l 4=some (numP 4 l):=by
 obtain⟨v,hv⟩:∃v,Qcu.f 5 l 4=some v:=by
  simp[Qcu.f,Qcu.l0,show(1:Int)<l.length by omega,show(2:Int)<l.length by omega,show(3:Int)<l.length by omega,show(0:Int)<l.length by omega,wrap64];omega
 unfold numP;rw[show(4:Nat)+1=5 from rfl,show(((4:Nat):Int))=4 from rfl,hv];rfl
abbrev V4:=Int × Int × Int × Int
def Qkd(v:V4)(l:List Int):V4:=(Qkc v.1 (numP 8 l),Qkc v.2.1 (numP 8 (l.drop 8)),Qkc v.2.2.1 (numP 8 (l.drop 16)),Qkc v.2.2.2 (numP 8 (l.drop 24)))
def Qke:Nat→V4→List Int→V4
 | 0,v,_=>v
 | m+1,v,l=>Qke m (Qkd v l) (l.drop 32)
def lenV:Value→Nat
 | .slice _ n _=>n
 | _=>0
def Qkf(i:Nat)(v:V4)(l:List Int):V4:=(if 0<i then Qkc v.1 (numP 8 l)else v.1,if 1<i then Qkc v.2.1 (numP 8 (l.drop 8))else v.2.1,if 2<i then Qkc v.2.2.1 (numP 8 (l.drop 16))else v.2.2.1,if 3<i then Qkc v.2.2.2 (numP 8 (l.drop 24))else v.2.2.2)
def StAt(W:World)(g:Nat)(sd:Int)(v:V4)(rv:Value)(n:Int):Prop:=W.heap[g]? = some (.cells #[.int .u64 sd,.int .u64 v.1,.int .u64 v.2.1,.int .u64 v.2.2.1,.int .u64 v.2.2.2,rv,.int .u64 n] 274 (0,0))
abbrev Q8(W:World)(b:Nat)(v:Value)(xs:List Int):Prop:=Kd.Q (Kd.int .u8) 5 W b (fun _=>True) v xs
theorem Qkg(A:Option Addr)(n c m:Nat)(j:Int)(hj:j=(m:Int))(hm:m≤n) :
  ∃A':Option Addr,(∀W:World,(Instr.slice 52 (.slice A n c) (some (.int .i64 j)) none none).run Tryz.prog W=.ok (.slice A' (n-m) (c-m)) W) ∧
   ∀(W:World) (b:Nat) (xs:List Int),xs.length=n→Q8 W b (.slice A n c) xs→Q8 W b (.slice A' (n-m) (c-m)) (xs.drop m):=by
 subst hj;obtain⟨i,hi,hsz⟩:∃i,Tryz.prog.info? 5=some i∧i.size=1:=by
  have h:=Qiq
  cases hh:Tryz.prog.info? 5 with
  | none=>rw[hh]at h;cases h
  | some i =>
   rw[hh]at h;simp only[Option.map_some,Option.some.injEq,Prod.mk.injEq]at h;exact⟨i,rfl,h.2.1⟩
 refine⟨if c=m then A else A.map (·.add (m*1)),fun W=>?_,fun W b xs hn hq=>?_⟩
 ·have h:=Qev (P:=Tryz.prog) 52 5 .i64 Tryz.underlying52 hi 1 hsz A n c (m:Int) (by omega) (by omega) W;rw[Int.toNat_natCast]at h;exact h
 ·exact Kd.Q_drop hq (by omega)
theorem Qkh{W:World}{b:Nat}{A:Option Addr}{n c:Nat}{l:List Int}(hQ:Q8 W b (.slice A n c) l)(h8:8≤l.length) :
  Calls Tryz.prog 200 #[.slice A n c,.int .i64 8] W fun e w'=>e=.returned (.int .u64 (numP 8 l))∧Drawn0 W w':=by
 obtain⟨rfl,h1,h2⟩:=Kd.Q_reads' hQ;exact Qcu.calls 9 A c l 8 _ W h2 h1 (num8_is l h8)
theorem num4_at{W:World}{b:Nat}{A:Option Addr}{n c:Nat}{l:List Int}(hQ:Q8 W b (.slice A n c) l)(h8:4≤l.length) :
  Calls Tryz.prog 200 #[.slice A n c,.int .i64 4] W fun e w'=>e=.returned (.int .u64 (numP 4 l))∧Drawn0 W w':=by
 obtain⟨rfl,h1,h2⟩:=Kd.Q_reads' hQ;exact Qcu.calls 5 A c l 4 _ W h2 h1 (num4_is l h8)
theorem Qki(x y:Int)(W:World):Calls Tryz.prog 199 #[.int .u64 x,.int .u64 y] W fun e w'=>e=.returned (.int .u64 (Qkc x y))∧Drawn0 W w':=Qct.calls x y _ W (into_is x y)
theorem Qkj(n:Nat)(hn:n≤64):∀(d i:Nat) (x:Int),i+d=n→∃r,Qbj.l0 (d+1) x (n:Int) (i:Int)=some r
 | 0,i,x,h=>by
  refine⟨x,?_⟩;unfold Qbj.l0;rw[if_neg (by omega)]
 | d+1,i,x,h=>by
  obtain⟨r,hr⟩:=Qkj n hn d (i+1) (IntKind.u64.wrap ((IntKind.u64.wrap (2*x))+(IntKind.u64.wrap (Int.tdiv x 9223372036854775808)))) (by omega);refine⟨r,?_⟩;unfold Qbj.l0;rw[if_pos (by omega),show wrap64 ((i:Int)+1)=((i+1:Nat):Int)by unfold wrap64;omega];exact hr
def Qkk(x:Int)(n:Nat):Int:=(Qbj.f (n+1) x n).getD 0
theorem Qkl(x:Int)(n:Nat)(hn:n≤64):Qbj.f (n+1) x n=some (Qkk x n):=by
 obtain⟨r,hr⟩:=Qkj n hn n 0 x (by omega);have h:Qbj.f (n+1) x n=some r:=hr;unfold Qkk;rw[h];rfl
def Qkm(x y:Int):Int:=(Qbh.f 32 x y).getD 0
theorem Qkn(x y:Int):Qbh.f 32 x y=some (Qkm x y):=by
 unfold Qkm Qbh.f;rw[show(32:Nat)=31+1 from rfl,show(31:Int)=((31:Nat):Int) from rfl,Qkl _ 31 (by omega)];rfl
theorem Qko(s:ByteArray)(hs:s.size≤1000):∀(d:Nat) (x:Int),d≤s.size→∃r,Qba.l0 (d+1) s x ((d:Int)-1)=some r
 | 0,x,h=>by
  refine⟨x,?_⟩;unfold Qba.l0;rw[if_neg (by omega)]
 | d+1,x,h=>by
  obtain⟨r,hr⟩:=Qko s hs d (IntKind.u64.wrap ((IntKind.u64.wrap (x*256))+(IntKind.u64.wrap (bt s (d:Int))))) (by omega);refine⟨r,?_⟩;unfold Qba.l0;rw[show((d+1:Nat):Int)-1=(d:Int)by omega,if_pos (by omega),if_pos (by omega),if_pos (by omega),show wrap64 ((d:Int)-1)=(d:Int)-1 by unfold wrap64;omega];exact hr
def rval(s:ByteArray):Int:=(Qba.f (s.size+1) s).getD 0
theorem Qkp(s:ByteArray)(hs:s.size≤1000):Qba.f (s.size+1) s=some (rval s):=by
 obtain⟨r,hr⟩:=Qko s hs s.size 0 (Nat.le_refl _);have h:Qba.f (s.size+1) s=some r:=by
  unfold Qba.f;rw[show wrap64 ((s.size:Int)-1)=(s.size:Int)-1 by unfold wrap64;omega];exact hr
 unfold rval;rw[h];rfl
def Qkq(v:V4)(s:ByteArray):V4:=(Qkm v.1 (rval (s.extract 0 8)),Qkm v.2.1 (rval (s.extract 8 16)),Qkm v.2.2.1 (rval (s.extract 16 24)),Qkm v.2.2.2 (rval (s.extract 24 32)))
def rrun:Nat→V4→ByteArray→V4 × ByteArray
 | 0,v,s=>(v,s)
 | m+1,v,s=>rrun m (Qkq v s) (s.extract 32 s.size)
def rsum(V:V4):Int:=IntKind.u64.wrap (IntKind.u64.wrap (IntKind.u64.wrap (Qkk V.1 1+Qkk V.2.1 7)+Qkk V.2.2.1 12)+Qkk V.2.2.2 18)
def Qkr(h x:Int):Int:=IntKind.u64.wrap (IntKind.u64.wrap (Go.bits .xor .u64 h (Qkm 0 x)*Q1)+Q4)
def rmix(h:Int)(V:V4):Int:=Qkr (Qkr (Qkr (Qkr h V.1) V.2.1) V.2.2.1) V.2.2.2
def Qks(sd:Int):V4:=(IntKind.u64.wrap (IntKind.u64.wrap (sd+Q1)+Q2),IntKind.u64.wrap (sd+Q2),sd,IntKind.u64.wrap (sd-Q1))
def Qbg.f(a0:Int)(a1:ByteArray):Option (Int × ByteArray) :=
 if a1.size≤9223372036854775807 then some (rmix (rsum (rrun (a1.size/32) (Qks a0) a1).1) (rrun (a1.size/32) (Qks a0) a1).1,(rrun (a1.size/32) (Qks a0) a1).2)else none
def rmixTo(i:Nat)(h:Int)(V:V4):Int:=match i with
 | 0=>h
 | 1=>Qkr h V.1
 | 2=>Qkr (Qkr h V.1) V.2.1
 | 3=>Qkr (Qkr (Qkr h V.1) V.2.1) V.2.2.1
 | _=>rmix h V
def VAt(W:World)(g:Nat)(V:V4):Prop:=W.heap[g]? = some (.cells #[.int .u64 V.1,.int .u64 V.2.1,.int .u64 V.2.2.1,.int .u64 V.2.2.2] 231 (0,0))
def Qkt:Value→Nat
 | .string s=>s.size
 | _=>0
def Qku(i:Nat)(v:V4)(s:ByteArray):V4:=(if 0<i then Qkm v.1 (rval (s.extract 0 8))else v.1,if 1<i then Qkm v.2.1 (rval (s.extract 8 16))else v.2.1,if 2<i then Qkm v.2.2.1 (rval (s.extract 16 24))else v.2.2.1,if 3<i then Qkm v.2.2.2 (rval (s.extract 24 32))else v.2.2.2)
theorem Qkv(s:ByteArray)(hs:s.size≤1000)(W:World):Calls Tryz.prog 107 #[.string s] W fun e w'=>e=.returned (.int .u64 (rval s))∧Drawn0 W w':=Qba.calls _ s _ W (Qkp s hs)
theorem Qkw(x y:Int)(W:World):Calls Tryz.prog 106 #[.int .u64 x,.int .u64 y] W fun e w'=>e=.returned (.int .u64 (Qkm x y))∧Drawn0 W w':=Qbh.calls _ x y _ W (Qkn x y)
theorem Qkx(x:Int)(n:Nat)(j:Int)(hj:j=(n:Int))(hn:n≤64)(W:World):Calls Tryz.prog 108 #[.int .u64 x,.int .i64 j] W fun e w'=>e=.returned (.int .u64 (Qkk x n))∧Drawn0 W w':=by
 subst hj;exact Qbj.calls _ x n _ W (Qkl x n hn)
theorem Qky(s:ByteArray)(a b:Nat):(s.extract a b).size≤b-a:=by
 rw[ByteArray.size_extract];omega
theorem Qkz(sd:Int)(s0:ByteArray)(w:World)(hs:s0.size≤9223372036854775807) :
  Calls Tryz.prog 105 #[.int .u64 sd,.string s0] w fun e w'=>e=.returned (.tuple #[.int .u64 (rmix (rsum (rrun (s0.size/32) (Qks sd) s0).1) (rrun (s0.size/32) (Qks sd) s0).1),.string (rrun (s0.size/32) (Qks sd) s0).2])∧Below w.heap.size w w':=by
 have hu2:=Tryz.underlying231
 go_enter Tryz.func105,Tryz.ntmps105
 go_wp2_with fail
 obtain⟨g,hg⟩:∃g,g=w.heap.size:=⟨_,rfl⟩;obtain⟨V0,hV0⟩:∃V0,V0=Qks sd:=⟨_,rfl⟩;obtain⟨W,hW⟩:∃W,W=w.alloc (.cells #[.int .u64 (IntKind.u64.wrap (IntKind.u64.wrap (sd+11400714785074694791)+14029467366897019727)),.int .u64 (IntKind.u64.wrap (sd+14029467366897019727)),.int .u64 sd,.int .u64 (IntKind.u64.wrap (sd-11400714785074694791))] 231):=⟨_,rfl⟩;have HV0:=QA (show VAt W g V0 by rw[hW,hg,hV0];exact Qej w _);have HW0:=QA (show Below w.heap.size w W by rw[hW];exact Qcw (Below.refl _ _) _);rw[← hW,← hg];have HG:=QA hg;have HVV:=QA hV0;clear hW hg hV0
 go_loopw [1,9,29] (fun v1 v9 a wr=>∃(m:Nat) (s:ByteArray) (V:V4),v1=.string s∧s.size≤s0.size∧Aside0 (s.size/32=m∧rrun (s0.size/32) V0 s0=rrun m V s)∧Aside0 (VAt wr g V)∧Aside0 (Below w.heap.size w wr))
  (fun v1 _ _ _=>Qkt v1)
 case atStart=>exact⟨_,s0,V0,rfl,Nat.le_refl _,⟨rfl,rfl⟩,HV0,HW0⟩
 case round =>
  clear HV0 HW0;obtain⟨m,s,V,rfl,hss,HM,HV,HB⟩:=hrel
  by_cases k:32≤s.size
  ·have d:(32:Int)≤(s.size:Int):=by omega
   go_wp2_with fail
   go_loopw [9,29] (fun v9 a wi=>∃(i:Nat) (iv:Int),i≤4∧a=.int .i64 iv∧Aside0 (iv=(i:Int))∧Aside0 (VAt wi g (Qku i V s))∧Aside0 (Below w.heap.size w wi))
    (fun _ a _=>4-(intOf a).toNat)
   case atStart=>exact⟨0,0,by omega,rfl,⟨rfl⟩,HV,HB⟩
   case round =>
    clear HV HB;obtain⟨i,iv,hi,rfl,HI,HV,HB⟩:=hrel
    by_cases h4:i<4
    ·have hk:i=0∨i=1∨i=2∨i=3:=by omega
     rcases hk with rfl|rfl|rfl|rfl
     ·obtain rfl:iv=0:=HI.out;have cv:wr.cell? ⟨g,0,none⟩=some (.int .u64 V.1):=(Qdv HV.out 0).trans rfl;have fv:=Qdw HV.out 0
      go_wp2_with fail
      have hw0:IntKind.i64.wrap 0=0:=IntWalk.i64_in 0 (by decide);have hw1:IntKind.i64.wrap 8=8:=IntWalk.i64_in 8 (by decide);have hsz:(8:Int)≤(s.size:Int):=by omega
      have hx:(s.extract 0 8).size≤1000:=Nat.le_trans (Qky s 0 8) (by decide)
      go_region_with (first |(go_at_call 107;refine(Qkv (s.extract 0 8) hx _).mono ?_;rintro e w7 ⟨rfl,hd⟩;obtain⟨q,rfl⟩:=hd.out;clear hd) |(go_at_call 106;refine(Qkw _ _ _).mono ?_;rintro e w8 ⟨rfl,hd⟩;obtain⟨q2,rfl⟩:=hd.out;clear hd))
      all_goals
       go_wp2_with fail
       go_roundw
       case rel=>exact⟨1,1,by omega,by go_num,⟨rfl⟩,⟨Qds (w:=wr.drewN _) HV.out 0 _⟩,⟨Qjo (Qcy HB.out _) (by rw[HG.out];exact Nat.le_refl _)⟩⟩
       case measure=>simp[intOf]
     ·obtain rfl:iv=1:=HI.out;have cv:wr.cell? ⟨g,1,none⟩=some (.int .u64 V.2.1):=(Qdv HV.out 1).trans rfl;have fv:=Qdw HV.out 1
      go_wp2_with fail
      have hw0:IntKind.i64.wrap 8=8:=IntWalk.i64_in 8 (by decide);have hw1:IntKind.i64.wrap 16=16:=IntWalk.i64_in 16 (by decide);have hsz:(16:Int)≤(s.size:Int):=by omega
      have hx:(s.extract 8 16).size≤1000:=Nat.le_trans (Qky s 8 16) (by decide)
      go_region_with (first |(go_at_call 107;refine(Qkv (s.extract 8 16) hx _).mono ?_;rintro e w7 ⟨rfl,hd⟩;obtain⟨q,rfl⟩:=hd.out;clear hd) |(go_at_call 106;refine(Qkw _ _ _).mono ?_;rintro e w8 ⟨rfl,hd⟩;obtain⟨q2,rfl⟩:=hd.out;clear hd))
      all_goals
       go_wp2_with fail
       go_roundw
       case rel=>exact⟨2,2,by omega,by go_num,⟨rfl⟩,⟨Qds (w:=wr.drewN _) HV.out 1 _⟩,⟨Qjo (Qcy HB.out _) (by rw[HG.out];exact Nat.le_refl _)⟩⟩
       case measure=>simp[intOf]
     ·obtain rfl:iv=2:=HI.out;have cv:wr.cell? ⟨g,2,none⟩=some (.int .u64 V.2.2.1):=(Qdv HV.out 2).trans rfl;have fv:=Qdw HV.out 2
      go_wp2_with fail
      have hw0:IntKind.i64.wrap 16=16:=IntWalk.i64_in 16 (by decide);have hw1:IntKind.i64.wrap 24=24:=IntWalk.i64_in 24 (by decide);have hsz:(24:Int)≤(s.size:Int):=by omega
      have hx:(s.extract 16 24).size≤1000:=Nat.le_trans (Qky s 16 24) (by decide)
      go_region_with (first |(go_at_call 107;refine(Qkv (s.extract 16 24) hx _).mono ?_;rintro e w7 ⟨rfl,hd⟩;obtain⟨q,rfl⟩:=hd.out;clear hd) |(go_at_call 106;refine(Qkw _ _ _).mono ?_;rintro e w8 ⟨rfl,hd⟩;obtain⟨q2,rfl⟩:=hd.out;clear hd))
      all_goals
       go_wp2_with fail
       go_roundw
       case rel=>exact⟨3,3,by omega,by go_num,⟨rfl⟩,⟨Qds (w:=wr.drewN _) HV.out 2 _⟩,⟨Qjo (Qcy HB.out _) (by rw[HG.out];exact Nat.le_refl _)⟩⟩
       case measure=>simp[intOf]
     ·obtain rfl:iv=3:=HI.out;have cv:wr.cell? ⟨g,3,none⟩=some (.int .u64 V.2.2.2):=(Qdv HV.out 3).trans rfl;have fv:=Qdw HV.out 3
      go_wp2_with fail
      have hw0:IntKind.i64.wrap 24=24:=IntWalk.i64_in 24 (by decide);have hw1:IntKind.i64.wrap 32=32:=IntWalk.i64_in 32 (by decide);have hsz:(32:Int)≤(s.size:Int):=by omega
      have hx:(s.extract 24 32).size≤1000:=Nat.le_trans (Qky s 24 32) (by decide)
      go_region_with (first |(go_at_call 107;refine(Qkv (s.extract 24 32) hx _).mono ?_;rintro e w7 ⟨rfl,hd⟩;obtain⟨q,rfl⟩:=hd.out;clear hd) |(go_at_call 106;refine(Qkw _ _ _).mono ?_;rintro e w8 ⟨rfl,hd⟩;obtain⟨q2,rfl⟩:=hd.out;clear hd))
      all_goals
       go_wp2_with fail
       go_roundw
       case rel=>exact⟨4,4,by omega,by go_num,⟨rfl⟩,⟨Qds (w:=wr.drewN _) HV.out 3 _⟩,⟨Qjo (Qcy HB.out _) (by rw[HG.out];exact Nat.le_refl _)⟩⟩
       case measure=>simp[intOf]
    ·obtain rfl:i=4:=by omega
     obtain rfl:iv=4:=HI.out
     go_wp2_with fail
     go_roundw
     case rel =>
      have e4:Qku 4 V s=Qkq V s:=rfl;have hm:=HM.out;have hd:(s.extract 32 s.size).size=s.size-32:=by rw[ByteArray.size_extract];omega
      refine⟨m-1,s.extract 32 s.size,Qkq V s,rfl,by rw[hd];omega,⟨by rw[hd];omega,?_⟩,⟨?_⟩,HB⟩
      ·rw[hm.2,show m=(m-1)+1 by omega];rfl
      ·exact HV.out
     case measure=>simp[Qkt];omega
  ·have d:(s.size:Int)<32:=by omega
   go_wp2_with fail
   have c0:wr.cell? ⟨g,0,none⟩=some (.int .u64 V.1):=(Qdv HV.out 0).trans rfl;have c1:wr.cell? ⟨g,1,none⟩=some (.int .u64 V.2.1):=(Qdv HV.out 1).trans rfl;have c2:wr.cell? ⟨g,2,none⟩=some (.int .u64 V.2.2.1):=(Qdv HV.out 2).trans rfl;have c3:wr.cell? ⟨g,3,none⟩=some (.int .u64 V.2.2.2):=(Qdv HV.out 3).trans rfl
   go_region_held3 (fun w'=>w'.cell? ⟨g,0,none⟩=some (.int .u64 V.1)∧w'.cell? ⟨g,1,none⟩=some (.int .u64 V.2.1)∧w'.cell? ⟨g,2,none⟩=some (.int .u64 V.2.2.1)∧w'.cell? ⟨g,3,none⟩=some (.int .u64 V.2.2.2)) (go_keep) (first
    |(go_at_call_of 108 (Value.int .i64 1);refine(Qkx V.1 1 1 rfl (by decide) _).mono ?_;rintro e w7 ⟨rfl,hd⟩;obtain⟨q1,rfl⟩:=hd.out;clear hd)
    |(go_at_call_of 108 (Value.int .i64 7);refine(Qkx V.2.1 7 7 rfl (by decide) _).mono ?_;rintro e w7 ⟨rfl,hd⟩;obtain⟨q2,rfl⟩:=hd.out;clear hd)
    |(go_at_call_of 108 (Value.int .i64 12);refine(Qkx V.2.2.1 12 12 rfl (by decide) _).mono ?_;rintro e w7 ⟨rfl,hd⟩;obtain⟨q3,rfl⟩:=hd.out;clear hd)
    |(go_at_call_of 108 (Value.int .i64 18);refine(Qkx V.2.2.2 18 18 rfl (by decide) _).mono ?_;rintro e w7 ⟨rfl,hd⟩;obtain⟨q4,rfl⟩:=hd.out;clear hd))
   obtain⟨W2,hW2⟩:∃W2,W2=wr.drewN (1+q1+q2+q3+q4):=⟨_,rfl⟩;have HV2:=QA (show VAt W2 g V by rw[hW2];exact HV.out);have c:=QA (show Below w.heap.size w W2 by rw[hW2];exact Qcy HB.out _);rw[← hW2];clear hW2 c0 c1 c2 c3 HV HB;have hm0:m=0:=by have:=HM.out.1;omega
   go_wp2_with fail
   go_loopw [10,11,64] (fun j l b wi=>∃(i:Nat) (iv h:Int),i≤4∧b=.int .i64 iv∧j=.int .u64 h∧Aside0 (iv=(i:Int))∧Aside0 (h=rmixTo i (rsum V) V)∧Aside0 (VAt wi g V)∧Aside0 (Below w.heap.size w wi))
    (fun _ _ b _=>4-(intOf b).toNat)
   case atStart=>exact⟨0,0,_,by omega,rfl,rfl,⟨rfl⟩,⟨rfl⟩,HV2,c⟩
   case round =>
    clear HV2 c;obtain⟨i,iv,h,hi,rfl,rfl,HI,HH,HV,HB⟩:=hrel
    by_cases h4:i<4
    ·have hk:i=0∨i=1∨i=2∨i=3:=by omega
     rcases hk with rfl|rfl|rfl|rfl
     ·obtain rfl:iv=0:=HI.out;have cv:wr.cell? ⟨g,0,none⟩=some (.int .u64 V.1):=(Qdv HV.out 0).trans rfl
      go_wp2_with (go_at_call 106;refine(Qkw _ _ _).mono ?_;rintro e w8 ⟨rfl,hd⟩;obtain⟨q9,rfl⟩:=hd.out;clear hd)
      go_roundw
      case rel=>exact⟨1,1,Qkr h V.1,by omega,by go_num,rfl,⟨rfl⟩,⟨by rw[HH.out];rfl⟩,⟨HV.out⟩,⟨Qcy HB.out _⟩⟩
      case measure=>simp[intOf]
     ·obtain rfl:iv=1:=HI.out;have cv:wr.cell? ⟨g,1,none⟩=some (.int .u64 V.2.1):=(Qdv HV.out 1).trans rfl
      go_wp2_with (go_at_call 106;refine(Qkw _ _ _).mono ?_;rintro e w8 ⟨rfl,hd⟩;obtain⟨q9,rfl⟩:=hd.out;clear hd)
      go_roundw
      case rel=>exact⟨2,2,Qkr h V.2.1,by omega,by go_num,rfl,⟨rfl⟩,⟨by rw[HH.out];rfl⟩,⟨HV.out⟩,⟨Qcy HB.out _⟩⟩
      case measure=>simp[intOf]
     ·obtain rfl:iv=2:=HI.out;have cv:wr.cell? ⟨g,2,none⟩=some (.int .u64 V.2.2.1):=(Qdv HV.out 2).trans rfl
      go_wp2_with (go_at_call 106;refine(Qkw _ _ _).mono ?_;rintro e w8 ⟨rfl,hd⟩;obtain⟨q9,rfl⟩:=hd.out;clear hd)
      go_roundw
      case rel=>exact⟨3,3,Qkr h V.2.2.1,by omega,by go_num,rfl,⟨rfl⟩,⟨by rw[HH.out];rfl⟩,⟨HV.out⟩,⟨Qcy HB.out _⟩⟩
      case measure=>simp[intOf]
     ·obtain rfl:iv=3:=HI.out;have cv:wr.cell? ⟨g,3,none⟩=some (.int .u64 V.2.2.2):=(Qdv HV.out 3).trans rfl
      go_wp2_with (go_at_call 106;refine(Qkw _ _ _).mono ?_;rintro e w8 ⟨rfl,hd⟩;obtain⟨q9,rfl⟩:=hd.out;clear hd)
      go_roundw
      case rel=>exact⟨4,4,Qkr h V.2.2.2,by omega,by go_num,rfl,⟨rfl⟩,⟨by rw[HH.out];rfl⟩,⟨HV.out⟩,⟨Qcy HB.out _⟩⟩
      case measure=>simp[intOf]
    ·obtain rfl:i=4:=by omega
     obtain rfl:iv=4:=HI.out
     go_wp2_with fail
     refine bodyPost_ret (results_tmp2 rfl _ _ _) rfl ?_;refine⟨?_,HB.out⟩;have e5:=HM.out.2;rw[hm0]at e5;have e6:rrun (s0.size/32) (Qks sd) s0=(V,s):=by rw[← HVV.out];exact e5
     rw[e6,HH.out];rfl
theorem Qbg.calls(a0:Int)(a1:ByteArray)(r1:Int)(r2:ByteArray)(w:World)(h:Qbg.f a0 a1=some (r1,r2)) :
  Calls Tryz.prog 105 #[.int .u64 a0,.string a1] w fun e w'=>e=.returned (.tuple #[.int .u64 r1,.string r2])∧Below w.heap.size w w':=by
 unfold Qbg.f at h;split at h
 ·rename_i hs;simp only[Option.some.injEq,Prod.mk.injEq]at h;obtain⟨rfl,rfl⟩:=h;exact Qkz a0 a1 w hs
 ·cases h
def ixOf(l:List Int)(c:Int):Int:=Lib.indexByte (Lib.bytesOf l) c.toNat.toUInt8
def Qae.f(l0:List Int)(a1:Int):Option Int:=some (ixOf l0 a1)
theorem Qae.calls(A0:Option Addr)(c0:Nat)(l0:List Int)(a1:Int)(r:Int)(w:World)(hr0:Kd.C (Kd.int .u8) w A0 l0.length l0)(hc0:l0.length≤c0)(h:Qae.f l0 a1=some r) :
  Calls Tryz.prog 80 #[.slice A0 l0.length c0,.int .u8 a1] w fun e w'=>e=.returned (.int .i64 r)∧Drawn0 w w':=by
 unfold Qae.f at h
 cases h
 have hcall:(callFunc 127 #[.slice A0 l0.length c0,.int .u8 a1]).run Tryz.prog w=.ok (.value (.int .i64 (ixOf l0 a1))) w:=by
  rw[run_callFunc_extern Tryz.func127 qq_7 qq_7 qq_7 (e:=Extern.BytealgIndexByte.indexByte) qq_7]
  cases A0 with
  | none =>
   obtain rfl:l0=[]:=by
    cases l0 with
    | nil=>rfl
    | cons a t=>obtain⟨ad,c,h1,_⟩:=Kd.C_get hr0 0 0 (by omega) (by simp);cases h1
   rw[Lib.run_indexByteNil];rfl
  | some ad =>
   rw[Lib.run_indexByteAt w ad l0.length c0 l0 rfl (fun i hi=>?_)]
   ·rfl
   ·obtain⟨a,ha,hx⟩:=Kd.at_int hr0 (i:Int) (by omega) (by omega)
    cases ha
    simpa [rd]using hx
 go_enter Tryz.func80,Tryz.ntmps80
 go_wp2;go_ret
 exact⟨rfl,Drawn0.refl _⟩
def mixP(h x:Int):Int:=IntKind.u64.wrap (IntKind.u64.wrap (Go.bits .xor .u64 h (Qkc 0 x)*Q1)+Q4)
def Qlw(i:Nat)(V:V4):Int :=
 let h1:=IntKind.u64.wrap (0+rotP V.1 1)
 let h2:=IntKind.u64.wrap (h1+rotP V.2.1 7)
 let h3:=IntKind.u64.wrap (h2+rotP V.2.2.1 12)
 let h4:=IntKind.u64.wrap (h3+rotP V.2.2.2 18)
 if i=0 then 0 else if i=1 then h1 else if i=2 then h2 else if i=3 then h3 else h4
def Qlx(i:Nat)(h:Int)(V:V4):Int :=
 let h1:=mixP h V.1
 let h2:=mixP h1 V.2.1
 let h3:=mixP h2 V.2.2.1
 let h4:=mixP h3 V.2.2.2
 if i=0 then h else if i=1 then h1 else if i=2 then h2 else if i=3 then h3 else h4
theorem Qly(V:V4):Qlw 0 V=0:=by simp[Qlw]
theorem Qlz(V:V4):Qlw 1 V=IntKind.u64.wrap (Qlw 0 V+rotP V.1 1):=by simp[Qlw]
theorem Qma(V:V4):Qlw 2 V=IntKind.u64.wrap (Qlw 1 V+rotP V.2.1 7):=by simp[Qlw]
theorem Qmb(V:V4):Qlw 3 V=IntKind.u64.wrap (Qlw 2 V+rotP V.2.2.1 12):=by simp[Qlw]
theorem Qmc(V:V4):Qlw 4 V=IntKind.u64.wrap (Qlw 3 V+rotP V.2.2.2 18):=by simp[Qlw]
theorem Qmd(h:Int)(V:V4):Qlx 0 h V=h:=by simp[Qlx]
theorem Qme(h:Int)(V:V4):Qlx 1 h V=mixP (Qlx 0 h V) V.1:=by simp[Qlx]
theorem Qmf(h:Int)(V:V4):Qlx 2 h V=mixP (Qlx 1 h V) V.2.1:=by simp[Qlx]
theorem Qmg(h:Int)(V:V4):Qlx 3 h V=mixP (Qlx 2 h V) V.2.2.1:=by simp[Qlx]
theorem Qmh(h:Int)(V:V4):Qlx 4 h V=mixP (Qlx 3 h V) V.2.2.2:=by simp[Qlx]
def Qmi(sd:Int)(V:V4)(n:Int):Int:=if n<32 then IntKind.u64.wrap (sd+Q5)else Qlx 4 (Qlw 4 V) V
theorem Qmj(x n:Int)(h:0≤n∧n<64∧Go.bits .and .u64 (IntKind.u64.wrap n) 63=n)(W:World):Calls Tryz.prog 202 #[.int .u64 x,.int .i64 n] W fun e w'=>e=.returned (.int .u64 (rotP x n))∧Drawn0 W w':=Qac.calls x n _ W (Qkb x n h)
theorem StAt.kept{W W':World}{g:Nat}{sd:Int}{V:V4}{rv:Value}{n:Int}(h:StAt W g sd V rv n)(hb:Below W.heap.size W W'):StAt W' g sd V rv n:=Qei h hb
theorem StAt.cells{W:World}{g:Nat}{sd:Int}{V:V4}{rv:Value}{n:Int}(h:StAt W g sd V rv n) :
  W.cell? ⟨g,0,none⟩=some (.int .u64 sd)∧W.cell? ⟨g,1,none⟩=some (.int .u64 V.1)∧W.cell? ⟨g,2,none⟩=some (.int .u64 V.2.1)∧W.cell? ⟨g,3,none⟩=some (.int .u64 V.2.2.1)∧W.cell? ⟨g,4,none⟩=some (.int .u64 V.2.2.2)∧W.cell? ⟨g,5,none⟩=some rv∧W.cell? ⟨g,6,none⟩=some (.int .u64 n) :=
 ⟨(Qdv h 0).trans rfl,(Qdv h 1).trans rfl,(Qdv h 2).trans rfl,(Qdv h 3).trans rfl,(Qdv h 4).trans rfl,(Qdv h 5).trans rfl,(Qdv h 6).trans rfl⟩
theorem Qmk(x0 x1 x2 x3:Int)(W:World):(∀k,k=0→(Instr.index 231 (.agg #[.int .u64 x0,.int .u64 x1,.int .u64 x2,.int .u64 x3]) (.int .i64 k)).run Tryz.prog W=.ok (.int .u64 x0) W) ∧
  (∀k,k=1→(Instr.index 231 (.agg #[.int .u64 x0,.int .u64 x1,.int .u64 x2,.int .u64 x3]) (.int .i64 k)).run Tryz.prog W=.ok (.int .u64 x1) W) ∧
  (∀k,k=2→(Instr.index 231 (.agg #[.int .u64 x0,.int .u64 x1,.int .u64 x2,.int .u64 x3]) (.int .i64 k)).run Tryz.prog W=.ok (.int .u64 x2) W) ∧
  (∀k,k=3→(Instr.index 231 (.agg #[.int .u64 x0,.int .u64 x1,.int .u64 x2,.int .u64 x3]) (.int .i64 k)).run Tryz.prog W=.ok (.int .u64 x3) W):=by
 refine⟨?_,?_,?_,?_⟩<;>rintro k rfl<;>simp[Instr.index,run_underlying Tryz.underlying231,asIntOf,go_sem]
theorem Qml(g:Nat)(sd:Int)(V:V4)(rv:Value)(n:Int)(w:World)(hv:StAt w g sd V rv n) :
  Calls Tryz.prog 201 #[.pointer (some ⟨g,0,none⟩)] w fun e w'=>e=.returned (.int .u64 (Qmi sd V n))∧Below w.heap.size w w':=by
 have hu:=Tryz.underlying274;have hu2:=Tryz.underlying231;have HV:=QA hv;obtain⟨c0,c1,c2,c3,c4,c5,c6⟩:=StAt.cells hv;clear hv
 by_cases c:n<32
 ·go_enter Tryz.func201,Tryz.ntmps201
  go_wp2_with fail
  go_ret
  exact⟨by simp[Qmi,c],Below.refl _ _⟩
 ·have d:32≤n:=by omega
  go_enter Tryz.func201,Tryz.ntmps201
  go_wp2_with fail
  obtain⟨B,hB⟩:∃B,B=w.heap.size:=⟨_,rfl⟩;obtain⟨W,hW⟩:∃W,W=w.alloc (.cells #[.int .i64 1,.int .i64 7,.int .i64 12,.int .i64 18] 3):=⟨_,rfl⟩;have hBlk:W.heap[B]? = some (.cells #[.int .i64 1,.int .i64 7,.int .i64 12,.int .i64 18] 3 (0,0)):=by rw[hW,hB];exact Qej w _
  have HBK:=QA hBlk;have HVW:=QA (show StAt W g sd V rv n by rw[hW];exact HV.out.kept (Qcw (Below.refl _ _) _));have HBW:=QA (show Below w.heap.size w W by rw[hW];exact Qcw (Below.refl _ _) _);rw[← hW,← hB];clear hW hB hBlk c0 c1 c2 c3 c4 c5 c6 HV
  go_loopw [3,4,5,20] (fun v3 v4 v5 a wr=>∃(i:Nat) (iv:Int),i≤4∧a=.int .i64 iv∧v3=.int .u64 (Qlw i V)∧Aside0 (iv=(i:Int))∧Aside0 (Below W.heap.size W wr))
   (fun _ _ _ a _=>4-(intOf a).toNat)
  case atStart=>exact⟨0,0,by omega,rfl,congrArg (Value.int .u64) (Qly V).symm,⟨rfl⟩,⟨Below.refl _ _⟩⟩
  case round =>
   obtain⟨i,iv,hi,rfl,rfl,HI,HB⟩:=hrel;obtain⟨d0,d1,d2,d3,d4,d5,d6⟩:=StAt.cells (HVW.out.kept HB.out);have hk:=Qei HBK.out HB.out;have b0:wr.cell? ⟨B,0,none⟩=some (.int .i64 1):=(Qdv hk 0).trans rfl;have b1:wr.cell? ⟨B,1,none⟩=some (.int .i64 7):=(Qdv hk 1).trans rfl;have b2:wr.cell? ⟨B,2,none⟩=some (.int .i64 12):=(Qdv hk 2).trans rfl;have b3:wr.cell? ⟨B,3,none⟩=some (.int .i64 18):=(Qdv hk 3).trans rfl;clear hk
   by_cases h4:i<4
   ·have hk:i=0∨i=1∨i=2∨i=3:=by omega
    rcases hk with rfl|rfl|rfl|rfl
    ·obtain rfl:iv=0:=HI.out
     go_wp2_with (go_at_call 202;refine(Qmj V.1 1 ⟨by decide,by decide,by kernel_rfl⟩ _).mono ?_;rintro e w7 ⟨rfl,hd⟩;have hd1:=hd.below;clear hd)
     go_roundw
     case rel=>exact⟨1,1,by omega,by go_num,congrArg (Value.int .u64) (Qlz V).symm,⟨rfl⟩,⟨Qcz HB.out HB.out.size hd1⟩⟩
     case measure=>simp[intOf]
    ·obtain rfl:iv=1:=HI.out
     go_wp2_with (go_at_call 202;refine(Qmj V.2.1 7 ⟨by decide,by decide,by kernel_rfl⟩ _).mono ?_;rintro e w7 ⟨rfl,hd⟩;have hd1:=hd.below;clear hd)
     go_roundw
     case rel=>exact⟨2,2,by omega,by go_num,congrArg (Value.int .u64) (Qma V).symm,⟨rfl⟩,⟨Qcz HB.out HB.out.size hd1⟩⟩
     case measure=>simp[intOf]
    ·obtain rfl:iv=2:=HI.out
     go_wp2_with (go_at_call 202;refine(Qmj V.2.2.1 12 ⟨by decide,by decide,by kernel_rfl⟩ _).mono ?_;rintro e w7 ⟨rfl,hd⟩;have hd1:=hd.below;clear hd)
     go_roundw
     case rel=>exact⟨3,3,by omega,by go_num,congrArg (Value.int .u64) (Qmb V).symm,⟨rfl⟩,⟨Qcz HB.out HB.out.size hd1⟩⟩
     case measure=>simp[intOf]
    ·obtain rfl:iv=3:=HI.out
     go_wp2_with (go_at_call 202;refine(Qmj V.2.2.2 18 ⟨by decide,by decide,by kernel_rfl⟩ _).mono ?_;rintro e w7 ⟨rfl,hd⟩;have hd1:=hd.below;clear hd)
     go_roundw
     case rel=>exact⟨4,4,by omega,by go_num,congrArg (Value.int .u64) (Qmc V).symm,⟨rfl⟩,⟨Qcz HB.out HB.out.size hd1⟩⟩
     case measure=>simp[intOf]
   ·obtain rfl:i=4:=by omega
    obtain rfl:iv=4:=HI.out
    go_wp2_with fail
    clear d0 d1 d2 d3 d4 d5 d6 b0 b1 b2 b3
    go_loopw [3,7,40] (fun v3 v7 b wi=>∃(i:Nat) (iv:Int),i≤4∧b=.int .i64 iv∧v3=.int .u64 (Qlx i (Qlw 4 V) V)∧Aside0 (iv=(i:Int))∧Aside0 (Below W.heap.size W wi))
     (fun _ _ b _=>4-(intOf b).toNat)
    case atStart=>exact⟨0,0,by omega,rfl,congrArg (Value.int .u64) (Qmd _ V).symm,⟨rfl⟩,HB⟩
    case round =>
     clear HB HI;obtain⟨i,iv,hi,rfl,rfl,HI,HB⟩:=hrel
     by_cases h4:i<4
     ·have hk:i=0∨i=1∨i=2∨i=3:=by omega
      rcases hk with rfl|rfl|rfl|rfl
      ·obtain rfl:iv=0:=HI.out;have hix:=(Qmk V.1 V.2.1 V.2.2.1 V.2.2.2 wr).1 0 rfl
       go_wp2_with (go_at_call 199;refine(Qki _ _ _).mono ?_;rintro e w7 ⟨rfl,hd⟩;have hd1:=hd.below;clear hd)
       go_roundw
       case rel=>exact⟨1,1,by omega,by go_num,congrArg (Value.int .u64) (Qme _ V).symm,⟨rfl⟩,⟨Qcz HB.out HB.out.size hd1⟩⟩
       case measure=>simp[intOf]
      ·obtain rfl:iv=1:=HI.out;have hix:=(Qmk V.1 V.2.1 V.2.2.1 V.2.2.2 wr).2.1 1 rfl
       go_wp2_with (go_at_call 199;refine(Qki _ _ _).mono ?_;rintro e w7 ⟨rfl,hd⟩;have hd1:=hd.below;clear hd)
       go_roundw
       case rel=>exact⟨2,2,by omega,by go_num,congrArg (Value.int .u64) (Qmf _ V).symm,⟨rfl⟩,⟨Qcz HB.out HB.out.size hd1⟩⟩
       case measure=>simp[intOf]
      ·obtain rfl:iv=2:=HI.out;have hix:=(Qmk V.1 V.2.1 V.2.2.1 V.2.2.2 wr).2.2.1 2 rfl
       go_wp2_with (go_at_call 199;refine(Qki _ _ _).mono ?_;rintro e w7 ⟨rfl,hd⟩;have hd1:=hd.below;clear hd)
       go_roundw
       case rel=>exact⟨3,3,by omega,by go_num,congrArg (Value.int .u64) (Qmg _ V).symm,⟨rfl⟩,⟨Qcz HB.out HB.out.size hd1⟩⟩
       case measure=>simp[intOf]
      ·obtain rfl:iv=3:=HI.out;have hix:=(Qmk V.1 V.2.1 V.2.2.1 V.2.2.2 wr).2.2.2 3 rfl
       go_wp2_with (go_at_call 199;refine(Qki _ _ _).mono ?_;rintro e w7 ⟨rfl,hd⟩;have hd1:=hd.below;clear hd)
       go_roundw
       case rel=>exact⟨4,4,by omega,by go_num,congrArg (Value.int .u64) (Qmh _ V).symm,⟨rfl⟩,⟨Qcz HB.out HB.out.size hd1⟩⟩
       case measure=>simp[intOf]
     ·obtain rfl:i=4:=by omega
      obtain rfl:iv=4:=HI.out
      go_wp2_with fail
      go_ret
      refine⟨by simp only[Qmi,if_neg (show ¬n<32 by omega)];rfl,HBW.out.trans (Qjp HB.out HBW.out.size)⟩
def one8(h:Int)(l:List Int):Int:=IntKind.u64.wrap (IntKind.u64.wrap (rotP (Go.bits .xor .u64 h (Qkc 0 (numP 8 l))) 27*Q1)+Q4)
def Qmm:Nat→Int→List Int→Int
 | 0,h,_=>h
 | m+1,h,l=>Qmm m (one8 h l) (l.drop 8)
def one4(h:Int)(l:List Int):Int:=IntKind.u64.wrap (IntKind.u64.wrap (rotP (Go.bits .xor .u64 h (IntKind.u64.wrap (numP 4 l*Q1))) 23*Q2)+Q3)
def one1(h x:Int):Int:=IntKind.u64.wrap (rotP (Go.bits .xor .u64 h (IntKind.u64.wrap (IntKind.u64.wrap x*Q5))) 11*Q1)
def finP(h:Int):Int :=
 let a:=IntKind.u64.wrap (Go.bits .xor .u64 h (h/8589934592)*Q2)
 let b:=IntKind.u64.wrap (Go.bits .xor .u64 a (a/536870912)*Q3)
 Go.bits .xor .u64 b (b/4294967296)
def sumP(h0:Int)(l:List Int):Int :=
 if 4≤(l.drop (8*(l.length/8))).length then finP (((l.drop (8*(l.length/8))).drop 4).foldl one1 (one4 (Qmm (l.length/8) h0 l) (l.drop (8*(l.length/8)))))else finP ((l.drop (8*(l.length/8))).foldl one1 (Qmm (l.length/8) h0 l))
theorem q8_cut'(A:Option Addr)(n c m:Nat)(j:Int)(hj:j=(m:Int))(hm:m≤n)(hc:n≤c) :
  ∃(A':Option Addr) (n' c':Nat),n'=n-m∧n'≤c'∧(∀W:World,(Instr.slice 52 (.slice A n c) (some (.int .i64 j)) none none).run Tryz.prog W=.ok (.slice A' n' c') W) ∧
   ∀(W:World) (b:Nat) (xs:List Int),xs.length=n→Q8 W b (.slice A n c) xs→Q8 W b (.slice A' n' c') (xs.drop m):=by
 obtain⟨A',h1,h2⟩:=Qkg A n c m j hj hm;exact⟨A',n-m,c-m,rfl,by omega,h1,h2⟩
theorem st_Sum (g b:Nat) (sd:Int) (V:V4) (rv:Value) (n:Int) (l:List Int) (w:World) (hv:StAt w g sd V rv n) (hR:Q8 w b rv l) :
  Calls Tryz.prog 157 #[.pointer (some ⟨g,0,none⟩)] w fun e w'=>e=.returned (.int .u64 (sumP (IntKind.u64.wrap (Qmi sd V n+n)) l))∧Below w.heap.size w w':=by
 have hu:=Tryz.underlying274;have hu2:=Tryz.underlying231;obtain⟨A,c,rfl,hlc⟩:=Kd.Q_slice hR;have HR:=QA hR;have HV:=QA hv;obtain⟨k0,k1,k2,k3,k4,k5,k6⟩:=StAt.cells hv;have hvd:StAt w.drew g sd V (.slice A l.length c) n:=hv.kept (Qcx (Below.refl _ _));obtain⟨j0,j1,j2,j3,j4,j5,j6⟩:=StAt.cells hvd
 go_enter Tryz.func157,Tryz.ntmps157
 go_wp2_with fail
 go_region_held3 (fun w'=>w'.cell? ⟨g,5,none⟩=some (.slice A l.length c)∧w'.cell? ⟨g,6,none⟩=some (.int .u64 n)) (first|exact⟨j5,j6⟩|exact⟨i5,i6⟩) (first |(go_at_call 201;refine(Qml g sd V _ n w.drew hvd).mono ?_;rintro e w2 ⟨rfl,hb2⟩;have hv2:=hvd.kept hb2;obtain⟨i0,i1,i2,i3,i4,i5,i6⟩:=StAt.cells hv2))
 have HQ2:=QA (show Q8 w2 b (.slice A l.length c) l from Kd.Q_below (Kd.Q_drew HR.out) hb2);have p:=QA (Qcz (Qcx (Below.refl w.heap.size w)) (Nat.le_refl _) hb2);clear j0 j1 j2 j3 j4 j5 j6 k0 k1 k2 k3 k4 k5 k6 hvd hv HV HR hR hb2 hv2 i0 i1 i2 i3 i4 i5 i6
 go_wp2_with fail
 obtain⟨h0,hh0⟩:∃h0,h0=IntKind.u64.wrap (Qmi sd V n+n):=⟨_,rfl⟩;rw[← hh0];have HH:=QA hh0;clear hh0
 go_loopw [3,4] (fun v3 v4 wr=>∃(m:Nat) (l':List Int) (h:Int) (A:Option Addr) (c:Nat),v3=.int .u64 h∧v4=.slice A l'.length c∧l'.length≤c∧l'.length≤l.length∧Aside0 (l'.length/8=m∧Qmm (l.length/8) h0 l=Qmm m h l'∧l.drop (8*(l.length/8))=l'.drop (8*m))∧Aside0 (Q8 wr b (.slice A l'.length c) l')∧Aside0 (Below w.heap.size w wr))
  (fun _ v4 _=>lenV v4)
 case atStart=>exact⟨_,l,h0,A,c,rfl,rfl,hlc,Nat.le_refl _,⟨rfl,rfl,rfl⟩,HQ2,p⟩
 case round =>
  clear HQ2 p hlc;obtain⟨m,l',h,A,c,rfl,rfl,hlc,hll,HM,HQ,HB⟩:=hrel
  by_cases h8:8≤l'.length
  ·have s:(8:Int)≤(l'.length:Int):=by omega
   obtain⟨A',hcut,hA'⟩:=Qkg A l'.length c 8 8 rfl h8
   go_wp2_with (first |(go_at_call 200;refine(Qkh HQ.out h8).mono ?_;rintro e w7 ⟨rfl,hd⟩;have hd1:=hd.below;clear hd) |(go_at_call 199;refine(Qki _ _ _).mono ?_;rintro e w8 ⟨rfl,hd⟩;have hd2:=hd.below;clear hd) |(go_at_call 202;refine(Qmj _ 27 ⟨by decide,by decide,by kernel_rfl⟩ _).mono ?_;rintro e w9 ⟨rfl,hd⟩;have hd3:=hd.below;clear hd))
   go_roundw
   case rel =>
    have hm:=HM.out;have hd:(l'.drop 8).length=l'.length-8:=List.length_drop;refine⟨m-1,l'.drop 8,one8 h l',A',c-8,rfl,by rw[hd],by rw[hd];omega,by rw[hd];omega,⟨by rw[hd];omega,?_,?_⟩,⟨?_⟩,⟨?_⟩⟩
    ·rw[hm.2.1,show m=(m-1)+1 by omega];rfl
    ·rw[hm.2.2,List.drop_drop]
     congr 1
     omega
    ·rw[hd];exact hA' _ _ _ rfl (Kd.Q_below (Kd.Q_below (Kd.Q_below HQ.out hd1) hd2) hd3)
    ·exact Qcz (Qcz (Qcz HB.out HB.out.size hd1) (Nat.le_trans HB.out.size hd1.size) hd2) (Nat.le_trans (Nat.le_trans HB.out.size hd1.size) hd2.size) hd3
   case measure=>simp[lenV];omega
  ·have s:(l'.length:Int)<8:=by omega
   by_cases h4:4≤l'.length
   ·have t:(4:Int)≤(l'.length:Int):=by omega
    obtain⟨A3,n3,c3,q,hc3,hcut,hA'⟩:=q8_cut' A l'.length c 4 4 rfl h4 hlc;have v:n3≤8:=by omega
    have HN:=QA q;clear q
    go_wp2_with (first |(go_at_call 200;refine(num4_at HQ.out h4).mono ?_;rintro e w7 ⟨rfl,hd⟩;have hd1:=hd.below;clear hd) |(go_at_call 202;refine(Qmj _ 23 ⟨by decide,by decide,by kernel_rfl⟩ _).mono ?_;rintro e w9 ⟨rfl,hd⟩;have hd3:=hd.below;clear hd))
    have HQ3:=QA (hA' _ _ _ rfl (Kd.Q_below (Kd.Q_below HQ.out hd1) hd3));have r:=QA (Qcz (Qcz HB.out HB.out.size hd1) (Nat.le_trans HB.out.size hd1.size) hd3);clear hcut hA' hd1 hd3;have a:=QA (Kd.Q_reads' HQ3.out);obtain⟨R,hR⟩:∃R,R=(l'.drop 4).foldl one1 (one4 h l'):=⟨_,rfl⟩;have j:=QA hR;clear hR
    go_loopw [3,6,46] (fun v3 v6 d wi=>∃(k:Nat) (iv x:Int),k≤n3∧d=.int .i64 iv∧v3=.int .u64 x∧Aside0 (iv=(k:Int))∧Aside0 (((l'.drop 4).drop k).foldl one1 x=R)∧Aside0 (Below w9.heap.size w9 wi))
     (fun _ _ d _=>n3-(intOf d).toNat)
    case atStart=>exact⟨0,0,_,Nat.zero_le _,rfl,rfl,⟨rfl⟩,⟨by rw[List.drop_zero];exact j.out.symm⟩,⟨Below.refl _ _⟩⟩
    case round =>
     obtain⟨k,iv,x,hk,rfl,rfl,HK,HX,HBi⟩:=hrel
     by_cases hlt:k<n3
     ·have hge:0≤iv:=by have:=HK.out;omega
      have hl2:iv<(n3:Int):=by have:=HK.out;omega
      obtain⟨ad,hA3,o⟩:=Kd.at_int (Kd.C_below a.out.2.2 HBi.out) iv hge (by rw[← a.out.1];exact hl2);have hA4:=hA3;obtain⟨y,hy⟩:∃y,y=rd (l'.drop 4) iv:=⟨_,rfl⟩;rw[← hy]at o;have HY:=QA hy;have HA:=QA hA4;clear hy hA4;subst hA3
      go_wp2_with (go_at_call 202;refine(Qmj _ 11 ⟨by decide,by decide,by kernel_rfl⟩ _).mono ?_;rintro e u ⟨rfl,hd⟩;have hd4:=hd.below;clear hd)
      go_roundw
      case rel=>exact⟨k+1,iv+1,one1 x y,by omega,by go_num,rfl,⟨by have:=HK.out;omega⟩,⟨by
       have e1:iv=(k:Int):=HK.out;have hkl:k<(l'.drop 4).length:=by have:=a.out.1;omega
       have e2:(l'.drop 4).drop k=rd (l'.drop 4) (k:Int) :: (l'.drop 4).drop (k+1):=by
        rw[List.drop_eq_getElem_cons hkl];simp[rd,List.getD_eq_getElem?_getD,List.getElem?_eq_getElem hkl]
       have e3:=HX.out;rw[e2,List.foldl_cons,← e1,← HY.out]at e3;exact e3⟩,⟨Qcz HBi.out HBi.out.size hd4⟩⟩
      case measure=>simp[intOf];omega
     ·obtain rfl:n3=k:=by omega
      have e1:iv=_:=HK.out;subst e1
      go_wp2_with fail
      go_ret
      have hL:(l'.drop 4).drop n3=[]:=List.drop_eq_nil_of_le (by have:=a.out.1;omega);have hx:=HX.out;rw[hL]at hx;have hx':x=R:=hx;subst hx';have hm:=HM.out;have hm0:m=0:=by omega
      subst hm0;refine⟨?_,Qcz r.out (Nat.le_trans r.out.size (Nat.le_refl _)) HBi.out⟩;have e5:sumP h0 l=finP x:=by
       rw[j.out];unfold sumP;rw[hm.2.1,hm.2.2];simp only[Qmm,Nat.mul_zero,List.drop_zero]
       first|rw[if_pos h4]|rw[if_neg h4]
      rw[← HH.out,e5];rfl
   ·have t:(l'.length:Int)<4:=by omega
    go_wp2_with fail
    have a:=QA (Kd.Q_reads' HQ.out);obtain⟨R,hR⟩:∃R,R=(l').foldl one1 (h):=⟨_,rfl⟩;have j:=QA hR;clear hR
    go_loopw [3,6,46] (fun v3 v6 d wi=>∃(k:Nat) (iv x:Int),k≤l'.length∧d=.int .i64 iv∧v3=.int .u64 x∧Aside0 (iv=(k:Int))∧Aside0 (((l').drop k).foldl one1 x=R)∧Aside0 (Below wr.heap.size wr wi))
     (fun _ _ d _=>l'.length-(intOf d).toNat)
    case atStart=>exact⟨0,0,_,Nat.zero_le _,rfl,rfl,⟨rfl⟩,⟨by rw[List.drop_zero];exact j.out.symm⟩,⟨Below.refl _ _⟩⟩
    case round =>
     obtain⟨k,iv,x,hk,rfl,rfl,HK,HX,HBi⟩:=hrel
     by_cases hlt:k<l'.length
     ·have hge:0≤iv:=by have:=HK.out;omega
      have hl2:iv<(l'.length:Int):=by have:=HK.out;omega
      obtain⟨ad,hA3,o⟩:=Kd.at_int (Kd.C_below a.out.2.2 HBi.out) iv hge (by rw[← a.out.1];exact hl2);have hA4:=hA3;obtain⟨y,hy⟩:∃y,y=rd (l') iv:=⟨_,rfl⟩;rw[← hy]at o;have HY:=QA hy;have HA:=QA hA4;clear hy hA4;subst hA3
      go_wp2_with (go_at_call 202;refine(Qmj _ 11 ⟨by decide,by decide,by kernel_rfl⟩ _).mono ?_;rintro e u ⟨rfl,hd⟩;have hd4:=hd.below;clear hd)
      go_roundw
      case rel=>exact⟨k+1,iv+1,one1 x y,by omega,by go_num,rfl,⟨by have:=HK.out;omega⟩,⟨by
       have e1:iv=(k:Int):=HK.out;have hkl:k<(l').length:=by have:=a.out.1;omega
       have e2:(l').drop k=rd (l') (k:Int) :: (l').drop (k+1):=by
        rw[List.drop_eq_getElem_cons hkl];simp[rd,List.getD_eq_getElem?_getD,List.getElem?_eq_getElem hkl]
       have e3:=HX.out;rw[e2,List.foldl_cons,← e1,← HY.out]at e3;exact e3⟩,⟨Qcz HBi.out HBi.out.size hd4⟩⟩
      case measure=>simp[intOf];omega
     ·obtain rfl:k=l'.length:=by omega
      have e1:iv=_:=HK.out;subst e1
      go_wp2_with fail
      go_ret
      have hL:(l').drop l'.length=[]:=List.drop_eq_nil_of_le (by have:=a.out.1;omega);have hx:=HX.out;rw[hL]at hx;have hx':x=R:=hx;subst hx';have hm:=HM.out;have hm0:m=0:=by omega
      subst hm0;refine⟨?_,Qcz HB.out (Nat.le_trans HB.out.size (Nat.le_refl _)) HBi.out⟩;have e5:sumP h0 l=finP x:=by
       rw[j.out];unfold sumP;rw[hm.2.1,hm.2.2];simp only[Qmm,Nat.mul_zero,List.drop_zero]
       first|rw[if_pos h4]|rw[if_neg h4]
      rw[← HH.out,e5];rfl
def Qmn(sd:Int)(l:List Int):Int :=
 sumP (IntKind.u64.wrap (Qmi sd (Qke (l.length/32) (IntKind.u64.wrap (IntKind.u64.wrap (sd+Q1)+Q2),IntKind.u64.wrap (sd+Q2),sd,IntKind.u64.wrap (sd-Q1)) l) l.length+l.length)) (l.drop (32*(l.length/32)))
theorem Qmo(b g:Nat)(sd:Int)(V:V4)(rv:Value)(A0:Option Addr)(c0:Nat)(l:List Int)(w:World)(hr0:Kd.C (Kd.int .u8) w A0 l.length l)(hfar:∀ad,A0=some ad→0<l.length→ad.block≠g)(hv:StAt w g sd V rv 0)(hR:R8 w b rv [])(hbg:b≤g)(hbw:b≤w.heap.size)(hl:l.length≤140737488355328) :
  Calls Tryz.prog 156 #[.pointer (some ⟨g,0,none⟩),.slice A0 l.length c0] w fun e w'=>e=.returned (.pointer (some ⟨g,0,none⟩))∧(∃rv',StAt w' g sd (Qke (l.length/32) V l) rv' l.length∧R8 w' b rv' (l.drop (32*(l.length/32))))∧Below b w w':=by
 have hu:=Tryz.underlying274;have hu2:=Tryz.underlying231;have hu3:=Tryz.underlying52;obtain⟨A1,n1,c1,rfl⟩:=R8.shape hR;have c6:w.cell? ⟨g,6,none⟩=some (.int .u64 0):=(Qdv hv 6).trans rfl;have c5:w.cell? ⟨g,5,none⟩=some (.slice A1 n1 c1):=(Qdv hv 5).trans rfl;have f6:=Qdw hv 6;have hw:=IntWalk.u64_in (l.length:Int) (by omega)
 go_enter Tryz.func156,Tryz.ntmps156
 have hC1:Kd.C (Kd.int .u8) (w.setCell ⟨g,6,none⟩ (.int .u64 l.length)) A0 l.length l:=Kd.C_keep (0:Int) hr0 ((KeepBut.refl w g none).set_ 6 _) hfar;have hv1:StAt (w.setCell ⟨g,6,none⟩ (.int .u64 l.length)) g sd V (.slice A1 n1 c1) l.length:=Qds hv 6 _;have hR1:R8 (w.setCell ⟨g,6,none⟩ (.int .u64 l.length)) b (.slice A1 n1 c1) []:=hR.set hv (by decide) 6 _;have hb1:Below b w (w.setCell ⟨g,6,none⟩ (.int .u64 l.length)):=Qjo (Below.refl _ _) hbg;have hz1:(w.setCell ⟨g,6,none⟩ (.int .u64 l.length)).heap.size=w.heap.size:=by simp
 go_wp2_with (first |(at_builtin;refine Kd.R_append_row (Value.int .u8) (0:Int) (h1:=fun _=>rfl) (w0:=w) b rfl (.tmp 20) (.tmp 21) 52 5 (.int .u8 0) 1 rfl Tryz.underlying52 Qiq rfl (by decide) (.slice A1 n1 c1) [] l A0 l.length c0 (fun _=>True) rfl rfl (fun _ _=>trivial) ?hO ?hR ?hB ?hS ?hL ?_;(case hO=>exact hR1);(case hR=>exact hC1);(case hB=>exact hb1);(case hS=>rw[hz1];exact hbw);(case hL=>simp;omega);intro v2 w2 a hb2 j hat2;have hv2:=Qdx hv1 j (hR1.clean hv1 (by decide));simp only[List.nil_append]at a))
 have HV2:=QA (show StAt w2 g sd V (.slice A1 n1 c1) l.length from hv2);have k:=QA hb2;obtain⟨A2,cc2,rfl,n,_⟩:=Kd.R_reads a;have HQ2:=QA (Kd.Q_of_R a);clear hv2 hb2 a hC1 hv1 hR1 hb1 hz1 c6 c5 f6 hr0 hfar hv hR j hat2
 go_loopw [5] (fun v5 wr=>∃(m:Nat) (l':List Int) (V':V4) (A:Option Addr) (c:Nat),v5=.slice A l'.length c∧l'.length≤c∧l'.length≤l.length∧Aside0 (l'.length/32=m∧Qke (l.length/32) V l=Qke m V' l'∧l.drop (32*(l.length/32))=l'.drop (32*m))∧Aside0 (Q8 wr b (.slice A l'.length c) l')∧Aside0 (StAt wr g sd V' (.slice A1 n1 c1) l.length)∧Aside0 (Below b w wr))
  (fun v5 _=>lenV v5)
 case atStart=>exact⟨_,l,V,A2,cc2,rfl,n,Nat.le_refl _,⟨rfl,rfl,rfl⟩,HQ2,HV2,k⟩
 case round =>
  obtain⟨m,l',V',A,c,rfl,hlc,hll,HM,HQ,HV,HB⟩:=hrel;clear HQ2 HV2 k
  by_cases p:32≤l'.length
  ·have o:(32:Int)≤(l'.length:Int):=by omega
   go_wp2_with fail
   go_loopw [6,26] (fun v6 d wi=>∃(i:Nat) (iv:Int),i≤4∧d=.int .i64 iv∧Aside0 (iv=(i:Int))∧Aside0 (Q8 wi b (.slice A l'.length c) l')∧Aside0 (StAt wi g sd (Qkf i V' l') (.slice A1 n1 c1) l.length)∧Aside0 (Below b w wi))
    (fun _ d _=>4-(intOf d).toNat)
   case atStart=>exact⟨0,0,by omega,rfl,⟨rfl⟩,HQ,HV,HB⟩
   case round =>
    obtain⟨i,iv,hi,rfl,HI,HQi,HVi,HBi⟩:=hrel;clear HQ HV HB
    by_cases h4:i<4
    ·have hk:i=0∨i=1∨i=2∨i=3:=by omega
     rcases hk with rfl|rfl|rfl|rfl
     ·obtain rfl:iv=0:=HI.out;have cv:wr.cell? ⟨g,1,none⟩=some (.int .u64 V'.1):=(Qdv HVi.out 1).trans rfl;have fv:=Qdw HVi.out 1
      go_wp2_with fail
      obtain⟨A',hcut,hA'⟩:=Qkg A l'.length c 0 0 rfl (by omega);have hwa:IntKind.i64.wrap 0=0:=IntWalk.i64_in 0 (by decide);have hq:∀q,Q8 (wr.drewN q) b (.slice A' (l'.length-0) (c-0)) (l'.drop 0):=fun q=>hA' _ _ _ rfl (Kd.Q_drewN HQi.out q)
      have h8:8≤(l'.drop 0).length:=by rw[List.length_drop];omega
      go_region_with (first |(go_at_call 200;refine(Qkh (hq _) h8).mono ?_;rintro e w7 ⟨rfl,hd⟩;obtain⟨q,rfl⟩:=hd.out;clear hd) |(go_at_call 199;refine(Qki _ _ _).mono ?_;rintro e w8 ⟨rfl,hd⟩;obtain⟨q2,rfl⟩:=hd.out;clear hd))
      all_goals
       go_wp2_with fail
       go_roundw
       case rel=>exact⟨1,1,by omega,by go_num,⟨rfl⟩,⟨Kd.Q_set (Kd.Q_drewN HQi.out _) (cells:=#[.int .u64 sd,.int .u64 (Qkf 0 V' l').1,.int .u64 (Qkf 0 V' l').2.1,.int .u64 (Qkf 0 V' l').2.2.1,.int .u64 (Qkf 0 V' l').2.2.2,.slice A1 n1 c1,.int .u64 l.length]) (t:=274) HVi.out (by intro q hq;rcases List.mem_cons.1 hq with rfl|hq;decide;cases hq) _ _⟩,⟨Qds (w:=wr.drewN _) HVi.out 1 _⟩,⟨Qjo (Qcy HBi.out _) hbg⟩⟩
       case measure=>simp[intOf]
     ·obtain rfl:iv=1:=HI.out;have cv:wr.cell? ⟨g,2,none⟩=some (.int .u64 V'.2.1):=(Qdv HVi.out 2).trans rfl;have fv:=Qdw HVi.out 2
      go_wp2_with fail
      obtain⟨A',hcut,hA'⟩:=Qkg A l'.length c 8 8 rfl (by omega);have hwa:IntKind.i64.wrap 8=8:=IntWalk.i64_in 8 (by decide);have hq:∀q,Q8 (wr.drewN q) b (.slice A' (l'.length-8) (c-8)) (l'.drop 8):=fun q=>hA' _ _ _ rfl (Kd.Q_drewN HQi.out q)
      have h8:8≤(l'.drop 8).length:=by rw[List.length_drop];omega
      go_region_with (first |(go_at_call 200;refine(Qkh (hq _) h8).mono ?_;rintro e w7 ⟨rfl,hd⟩;obtain⟨q,rfl⟩:=hd.out;clear hd) |(go_at_call 199;refine(Qki _ _ _).mono ?_;rintro e w8 ⟨rfl,hd⟩;obtain⟨q2,rfl⟩:=hd.out;clear hd))
      all_goals
       go_wp2_with fail
       go_roundw
       case rel=>exact⟨2,2,by omega,by go_num,⟨rfl⟩,⟨Kd.Q_set (Kd.Q_drewN HQi.out _) (cells:=#[.int .u64 sd,.int .u64 (Qkf 1 V' l').1,.int .u64 (Qkf 1 V' l').2.1,.int .u64 (Qkf 1 V' l').2.2.1,.int .u64 (Qkf 1 V' l').2.2.2,.slice A1 n1 c1,.int .u64 l.length]) (t:=274) HVi.out (by intro q hq;rcases List.mem_cons.1 hq with rfl|hq;decide;cases hq) _ _⟩,⟨Qds (w:=wr.drewN _) HVi.out 2 _⟩,⟨Qjo (Qcy HBi.out _) hbg⟩⟩
       case measure=>simp[intOf]
     ·obtain rfl:iv=2:=HI.out;have cv:wr.cell? ⟨g,3,none⟩=some (.int .u64 V'.2.2.1):=(Qdv HVi.out 3).trans rfl;have fv:=Qdw HVi.out 3
      go_wp2_with fail
      obtain⟨A',hcut,hA'⟩:=Qkg A l'.length c 16 16 rfl (by omega);have hwa:IntKind.i64.wrap 16=16:=IntWalk.i64_in 16 (by decide);have hq:∀q,Q8 (wr.drewN q) b (.slice A' (l'.length-16) (c-16)) (l'.drop 16):=fun q=>hA' _ _ _ rfl (Kd.Q_drewN HQi.out q)
      have h8:8≤(l'.drop 16).length:=by rw[List.length_drop];omega
      go_region_with (first |(go_at_call 200;refine(Qkh (hq _) h8).mono ?_;rintro e w7 ⟨rfl,hd⟩;obtain⟨q,rfl⟩:=hd.out;clear hd) |(go_at_call 199;refine(Qki _ _ _).mono ?_;rintro e w8 ⟨rfl,hd⟩;obtain⟨q2,rfl⟩:=hd.out;clear hd))
      all_goals
       go_wp2_with fail
       go_roundw
       case rel=>exact⟨3,3,by omega,by go_num,⟨rfl⟩,⟨Kd.Q_set (Kd.Q_drewN HQi.out _) (cells:=#[.int .u64 sd,.int .u64 (Qkf 2 V' l').1,.int .u64 (Qkf 2 V' l').2.1,.int .u64 (Qkf 2 V' l').2.2.1,.int .u64 (Qkf 2 V' l').2.2.2,.slice A1 n1 c1,.int .u64 l.length]) (t:=274) HVi.out (by intro q hq;rcases List.mem_cons.1 hq with rfl|hq;decide;cases hq) _ _⟩,⟨Qds (w:=wr.drewN _) HVi.out 3 _⟩,⟨Qjo (Qcy HBi.out _) hbg⟩⟩
       case measure=>simp[intOf]
     ·obtain rfl:iv=3:=HI.out;have cv:wr.cell? ⟨g,4,none⟩=some (.int .u64 V'.2.2.2):=(Qdv HVi.out 4).trans rfl;have fv:=Qdw HVi.out 4
      go_wp2_with fail
      obtain⟨A',hcut,hA'⟩:=Qkg A l'.length c 24 24 rfl (by omega);have hwa:IntKind.i64.wrap 24=24:=IntWalk.i64_in 24 (by decide);have hq:∀q,Q8 (wr.drewN q) b (.slice A' (l'.length-24) (c-24)) (l'.drop 24):=fun q=>hA' _ _ _ rfl (Kd.Q_drewN HQi.out q)
      have h8:8≤(l'.drop 24).length:=by rw[List.length_drop];omega
      go_region_with (first |(go_at_call 200;refine(Qkh (hq _) h8).mono ?_;rintro e w7 ⟨rfl,hd⟩;obtain⟨q,rfl⟩:=hd.out;clear hd) |(go_at_call 199;refine(Qki _ _ _).mono ?_;rintro e w8 ⟨rfl,hd⟩;obtain⟨q2,rfl⟩:=hd.out;clear hd))
      all_goals
       go_wp2_with fail
       go_roundw
       case rel=>exact⟨4,4,by omega,by go_num,⟨rfl⟩,⟨Kd.Q_set (Kd.Q_drewN HQi.out _) (cells:=#[.int .u64 sd,.int .u64 (Qkf 3 V' l').1,.int .u64 (Qkf 3 V' l').2.1,.int .u64 (Qkf 3 V' l').2.2.1,.int .u64 (Qkf 3 V' l').2.2.2,.slice A1 n1 c1,.int .u64 l.length]) (t:=274) HVi.out (by intro q hq;rcases List.mem_cons.1 hq with rfl|hq;decide;cases hq) _ _⟩,⟨Qds (w:=wr.drewN _) HVi.out 4 _⟩,⟨Qjo (Qcy HBi.out _) hbg⟩⟩
       case measure=>simp[intOf]
    ·obtain rfl:i=4:=by omega
     obtain rfl:iv=4:=HI.out;obtain⟨A',hcut,hA'⟩:=Qkg A l'.length c 32 32 rfl p
     go_wp2_with fail
     go_roundw
     case rel =>
      have e4:Qkf 4 V' l'=Qkd V' l':=rfl;have hm:=HM.out;have hd:(l'.drop 32).length=l'.length-32:=List.length_drop;refine⟨m-1,l'.drop 32,Qkd V' l',A',c-32,by rw[hd],by rw[hd];omega,by rw[hd];omega,⟨by rw[hd];omega,?_,?_⟩,⟨?_⟩,⟨?_⟩,HBi⟩
      ·rw[hm.2.1,show m=(m-1)+1 by omega];rfl
      ·rw[hm.2.2,List.drop_drop]
       congr 1
       omega
      ·rw[hd];exact hA' _ _ _ rfl HQi.out
      ·exact HVi.out
     case measure=>simp[lenV];omega
  ·have o:(l'.length:Int)<32:=by omega
   have hq':=Kd.Q_reads' HQ.out;have cv:wr.cell? ⟨g,5,none⟩=some (.slice A1 n1 c1):=(Qdv HV.out 5).trans rfl
   go_wp2_with (first |(at_builtin;refine Kd.R_append_row (Value.int .u8) (0:Int) (h1:=fun _=>rfl) (w0:=wr) b rfl (.const (.slice none 0 0)) (.tmp 50) 52 5 (.int .u8 0) 1 rfl Tryz.underlying52 Qiq rfl (by decide) (.slice none 0 0) [] l' A l'.length c (fun _=>True) rfl rfl (fun _ _=>trivial) ?hO ?hR ?hB ?hS ?hL ?_;(case hO=>exact Kd.R_nil _ _ _ _ _);(case hR=>exact hq'.2.2);(case hB=>exact Below.refl _ _);(case hS=>exact Nat.le_trans hbw HB.out.size);(case hL=>simp;omega);intro v3 w3 h hb3 r hat3;obtain⟨A3,n3,c3,rfl⟩:=R8.shape h;have hv3:=Qdx (show wr.heap[g]? = _ from HV.out) r (by simp[Value.ownBlock]);have fv:=Qdw hv3 5;have cv3:w3.cell? ⟨g,5,none⟩=some (.slice A1 n1 c1):=(Qdv hv3 5).trans rfl;(try simp only[List.nil_append]at h)))
   go_ret
   have hm:=HM.out;have hm0:m=0:=by omega
   subst hm0;refine⟨rfl,⟨.slice A3 n3 c3,?_,?_⟩,Qjo (HB.out.trans hb3) hbg⟩
   ·rw[hm.2.1];exact Qds hv3 5 _
   ·rw[hm.2.2]
    simpa using R8.set h hv3 (by decide) 5 _
end Go.Proofs.YtnnofopfbeklbaaGreat.C
end
