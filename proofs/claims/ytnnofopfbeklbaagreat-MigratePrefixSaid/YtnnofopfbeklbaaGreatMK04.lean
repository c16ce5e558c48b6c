/- Merged texts. -/
import Derived.Test.YtnnofopfbeklbaaGreatMK02
import Derived.Test.YtnnofopfbeklbaaGreatMK03
set_option linter.unusedVariables false
set_option linter.unusedSimpArgs false
set_option maxHeartbeats 8000000
set_option maxRecDepth 100000
section
namespace Go.Proofs.YtnnofopfbeklbaaGreat.C
open Go.RowKit Go.Proofs.YtnnofopfbeklbaaGreatW.PrintWords Go.Proofs.YtnnofopfbeklbaaGreatW.PrintLast Go.Proofs.YtnnofopfbeklbaaGreatW.PrintMore
attribute [local go_sem] Qjm Qjn Qjo Qjp Qjq Qjr Qjs Qjt
def Qah.l0:Nat→Int→List Int→Int→Int→Option (Int)
 | 0,_,_,_,_=>none
 | k+1,x3,x6,x7,x8=>if x8<x7 then(if 0≤x8 then(if x8<(x6.length:Int)then(if(rd x6 x8)=x3 then(Qah.l0 k x3 x6 x7 (wrap64 (x8+1)))else(some (rd x6 x8)))else(none))else(none))else(some x3)
def Qah.f(k:Nat)(l0:List Int):Option (Int):=Qah.l0 k 0 l0 (l0.length:Int) 0
theorem Qah.mono_l:∀k,(∀y0 y1 y2 y3,LeO (Qah.l0 k y0 y1 y2 y3) (Qah.l0 (k+1) y0 y1 y2 y3))
 | 0=>fun _ _ _ _ r h=>by simp[Qah.l0]at h
 | k+1=>by
  have ih0:=Qah.mono_l k
  ·intro y0 y1 y2 y3;unfold Qah.l0
   repeat' first
   |(with_reducible exact ih0 _ _ _ _)
   |(with_reducible exact LeO.refl _)
   |(with_reducible exact LeO.none _)
   |(with_reducible refine LeO.ite ?_ ?_)
   |(with_reducible refine LeO.bind ?_ (fun _=>?_))
   | exact ih0 _ _ _ _
   | exact LeO.none _
   | refine LeO.ite ?_ ?_
   | refine LeO.bind ?_ (fun _=>?_)
theorem Qah.mono:∀a0 k,LeO (Qah.f k a0) (Qah.f (k+1) a0):=by
 intro a0 k;have ih0:=Qah.mono_l k;unfold Qah.f
 repeat' first
   |(with_reducible exact ih0 _ _ _ _)
   |(with_reducible exact LeO.refl _)
   |(with_reducible exact LeO.none _)
   |(with_reducible refine LeO.ite ?_ ?_)
   |(with_reducible refine LeO.bind ?_ (fun _=>?_))
   | exact ih0 _ _ _ _
   | exact LeO.none _
   | refine LeO.ite ?_ ?_
   | refine LeO.bind ?_ (fun _=>?_)
theorem Qah.calls(k:Nat)(A0:Option Addr)(c0:Nat)(l0:List Int)(r:Int)(w:World)(hr0:Kd.C (Kd.int .i64) w A0 l0.length l0)(hc0:l0.length≤c0)(h:Qah.f k l0=some r) :
  Calls Tryz.prog 165 #[.slice A0 l0.length c0] w fun e w'=>e=.returned (.int .i64 r)∧Drawn0 w w':=by
 have j:=QA hr0;have q:=QA hc0;clear hr0 hc0;have H:(Qah.l0 k 0 l0 (l0.length:Int) 0)=some r:=h;clear h;have H':=QA H;clear H
 go_enter Tryz.func165,Tryz.ntmps165
 go_wp2
 go_loopg [8] k (fun kq v8 w'=>∃(x8_1:Int),v8=.int .i64 x8_1∧Aside0 (Qah.l0 kq 0 l0 (l0.length:Int) x8_1=some r)∧Aside0 (kq≤k)∧Drawn0 w w')
 case atStart=>exact⟨(0),qq_8,H',⟨Nat.le_refl _⟩,by repeat(first|exact Drawn0.refl _|apply Drawn0.step)⟩
 case round =>
  clear H';obtain⟨x8_1,rfl,HA,HK1,⟨m1,rfl⟩⟩:=hrel
  cases gk with
  | zero=>exact absurd HA.out (by simp[Qah.l0])
  | succ k1 =>
   have H:=HA.out;clear HA;simp only[Qah.l0]at H
   by_cases c2:x8_1<(l0.length:Int)
   ·rw [if_pos c2]at H;have l:=decide_eq_true c2;clear c2
    by_cases c3:0≤x8_1
    ·rw[if_pos c3]at H;have o:=decide_eq_true c3;clear c3
     by_cases c4:x8_1<(l0.length:Int)
     ·rw[if_pos c4]at H;have p:=decide_eq_true c4;clear c4
      by_cases c5:(rd l0 x8_1)=0
      ·rw[if_pos c5]at H;have m:((rd l0 x8_1) == 0)=true:=beq_iff_eq.mpr c5;have n:((rd l0 x8_1) != 0)=false:=bne_eq_false_iff_eq.mpr c5;clear c5;have H':=QA H;clear H;have a:0≤(x8_1:Int):=of_decide_eq_true qq_5;have b:x8_1<(l0.length:Int):=of_decide_eq_true qq_5;obtain⟨g,c,d⟩:=Kd.at_int j.out x8_1 a b
       cases c
       replace a:=eq_true a;replace b:=eq_true b;go_wp2
       go_roundg k1
       case measure=>have:=HK1.out;omega
       case rel=>exact⟨(wrap64 (x8_1+1)),qq_8,H',⟨by have:=HK1.out;omega⟩,by repeat(first|exact Drawn0.refl _|apply Drawn0.step)⟩
      ·rw[if_neg c5]at H;have m:((rd l0 x8_1) == 0)=false:=beq_eq_false_iff_ne.mpr c5;have n:((rd l0 x8_1) != 0)=true:=bne_iff_ne.mpr c5;obtain rfl:=Option.some.inj H;have a:0≤(x8_1:Int):=of_decide_eq_true qq_5;have b:x8_1<(l0.length:Int):=of_decide_eq_true qq_5;obtain⟨g,c,d⟩:=Kd.at_int j.out x8_1 a b
       cases c
       replace a:=eq_true a;replace b:=eq_true b;go_wp2;go_ret
       exact⟨by first|rfl |(simp;done) |(simp[*];done),by repeat(first|exact Drawn0.refl _|apply Drawn0.step)⟩
     ·rw[if_neg c4]at H;exact absurd H (by simp)
    ·rw[if_neg c3]at H;exact absurd H (by simp)
   ·rw[if_neg c2]at H;have l:=decide_eq_false c2;clear c2;obtain rfl:=Option.some.inj H;go_wp2;go_ret
    exact⟨by first|rfl |(simp;done) |(simp[*];done),by repeat(first|exact Drawn0.refl _|apply Drawn0.step)⟩
mutual
def Qdh.l0:Nat→List (S39)→List (S39)→Int→Int→Option (Int)
 | 0,_,_,_,_=>none
 | k+1,x0,x7,x8,x9=>if x9<x8 then(if 0≤x9 then(if x9<(x7.length:Int)then((Qdg.f k ((Qkk x7 x9).f0) ((Qkk x7 x9).f1) ((Qkk x7 x9).f2) ((Qkk x7 x9).f3)).bind fun t147=>(if t147=0 then(Qdh.l0 k x0 x7 x8 (wrap64 (x9+1)))else(some t147)))else(none))else(none))else(Qdh.l1 k x0 1)
def Qdh.l1:Nat→List (S39)→Int→Option (Int)
 | 0,_,_=>none
 | k+1,x0,x6=>if x6<(x0.length:Int)then(if 0≤x6 then(if 0≤(wrap64 (x6-1))then(if(wrap64 (x6-1))<(x0.length:Int)then(if((Qkk x0 x6).f1)≤((Qkk x0 (wrap64 (x6-1))).f1)then(some 8)else(Qdh.l1 k x0 (wrap64 (x6+1))))else(none))else(none))else(none))else(some 0)
end
def Qdh.f(k:Nat)(l0:List (S39)):Option (Int):=Qdh.l0 k l0 l0 (l0.length:Int) 0
theorem Qdh.mono_l:∀k,(∀y0 y1 y2 y3,LeO (Qdh.l0 k y0 y1 y2 y3) (Qdh.l0 (k+1) y0 y1 y2 y3))∧(∀y0 y1,LeO (Qdh.l1 k y0 y1) (Qdh.l1 (k+1) y0 y1))
 | 0=>⟨fun _ _ _ _ r h=>by simp[Qdh.l0]at h,fun _ _ r h=>by simp[Qdh.l1]at h⟩
 | k+1=>by
  obtain⟨ih0,ih1⟩:=Qdh.mono_l k;refine⟨?_,?_⟩
  ·intro y0 y1 y2 y3;unfold Qdh.l0
   repeat' first
   |(with_reducible exact ih0 _ _ _ _)
   |(with_reducible exact ih1 _ _)
   |(with_reducible exact Qdg.mono _ _ _ _ _)
   |(with_reducible exact LeO.refl _)
   |(with_reducible exact LeO.none _)
   |(with_reducible refine LeO.ite ?_ ?_)
   |(with_reducible refine LeO.bind ?_ (fun _=>?_))
   | exact ih0 _ _ _ _
   | exact ih1 _ _
   | exact Qdg.mono _ _ _ _ _
   | exact LeO.none _
   | refine LeO.ite ?_ ?_
   | refine LeO.bind ?_ (fun _=>?_)
  ·intro y0 y1;unfold Qdh.l1
   repeat' first
   |(with_reducible exact ih0 _ _ _ _)
   |(with_reducible exact ih1 _ _)
   |(with_reducible exact Qdg.mono _ _ _ _ _)
   |(with_reducible exact LeO.refl _)
   |(with_reducible exact LeO.none _)
   |(with_reducible refine LeO.ite ?_ ?_)
   |(with_reducible refine LeO.bind ?_ (fun _=>?_))
   | exact ih0 _ _ _ _
   | exact ih1 _ _
   | exact Qdg.mono _ _ _ _ _
   | exact LeO.none _
   | refine LeO.ite ?_ ?_
   | refine LeO.bind ?_ (fun _=>?_)
theorem Qdh.mono:∀a0 k,LeO (Qdh.f k a0) (Qdh.f (k+1) a0):=by
 intro a0 k;obtain⟨ih0,ih1⟩:=Qdh.mono_l k;unfold Qdh.f
 repeat' first
   |(with_reducible exact ih0 _ _ _ _)
   |(with_reducible exact ih1 _ _)
   |(with_reducible exact Qdg.mono _ _ _ _ _)
   |(with_reducible exact LeO.refl _)
   |(with_reducible exact LeO.none _)
   |(with_reducible refine LeO.ite ?_ ?_)
   |(with_reducible refine LeO.bind ?_ (fun _=>?_))
   | exact ih0 _ _ _ _
   | exact ih1 _ _
   | exact Qdg.mono _ _ _ _ _
   | exact LeO.none _
   | refine LeO.ite ?_ ?_
   | refine LeO.bind ?_ (fun _=>?_)
theorem Qdh.calls (k:Nat) (A0:Option Addr) (c0:Nat) (l0:List (S39)) (r:Int) (w:World) (hr0:Kd.C k39 w A0 l0.length l0) (hc0:l0.length≤c0) (h:Qdh.f k l0=some r) :
  Calls Tryz.prog 124 #[.slice A0 l0.length c0] w fun e w'=>e=.returned (.int .i64 r)∧Below w.heap.size w w':=by
 have hu39:=Tryz.underlying39;have L:=QA hr0;have aC:=QA hc0;clear hr0 hc0;have HB:=QA (Below.refl w.heap.size w);have H:(Qdh.l0 k l0 l0 (l0.length:Int) 0)=some r:=h;clear h;have H':=QA H;clear H
 go_enter Tryz.func124,Tryz.ntmps124
 go_wp2
 repeat(go_quiet (fail);try go_wp2)
 go_loopg [9] k (fun kq v9 w'=>∃(a:Int),v9=.int .i64 a∧Aside0 (Qdh.l0 kq l0 l0 (l0.length:Int) a=some r)∧Aside0 (kq≤k)∧Aside0 (Below w.heap.size w w'))
 case atStart=>exact⟨(0),qq_8,H',⟨Nat.le_refl _⟩,⟨qq_b⟩⟩
 case round =>
  clear H';obtain⟨a,rfl,HA,HK1,HB⟩:=hrel
  cases gk with
  | zero=>exact absurd HA.out (by simp[Qdh.l0])
  | succ k1 =>
   have H:=HA.out;clear HA;simp only[Qdh.l0]at H
   by_cases c2:a<(l0.length:Int)
   ·rw [if_pos c2]at H;have af:=decide_eq_true c2;clear c2
    by_cases c3:0≤a
    ·rw[if_pos c3]at H;have av:=decide_eq_true c3;clear c3
     by_cases c4:a<(l0.length:Int)
     ·rw[if_pos c4]at H;have aw:=decide_eq_true c4;clear c4;replace H:=Option.bind_eq_some_iff.mp H;obtain⟨D,au,H⟩:=H;have A5:=QA au;clear au
      by_cases c6:D=0
      ·rw[if_pos c6]at H;have ag:(D == 0)=true:=beq_iff_eq.mpr c6;have ah:(D != 0)=false:=bne_eq_false_iff_eq.mpr c6;clear c6;have H':=QA H;clear H;have A:0≤(a:Int):=of_decide_eq_true qq_5;have B:a<(l0.length:Int):=of_decide_eq_true qq_5;obtain⟨am,U,j,l,m,n⟩:=Qkl L.out a A B
       cases U
       replace j:=qq_h HB.out j;replace l:=qq_h HB.out l;replace m:=qq_h HB.out m;replace n:=qq_h HB.out n;replace A:=eq_true A;replace B:=eq_true B
       go_wp2_with (first |((with_reducible refine Qgv (N:=4) rfl ?_);refine qq_e 4 #[.bool false,.int .u64 0,.string (⟨#[]⟩:ByteArray),.string (⟨#[]⟩:ByteArray)] 39 ?_;intro z hg w7 hbox hb;have n_:=qn4 (Qgk qq_b hb) (hbox) (qq_s hg:w.heap.size≤z) (qq_s hg:w.heap.size≤z);clear HB;obtain⟨HB,d,an,ao⟩:=n_;clear hb hbox hg;obtain⟨ai,aj,ak,al⟩:=qc4 d.out;have ax:=Qeq d.out) |(go_at_call 56;(with_reducible refine(Qdg.calls k1 ((Qkk l0 a).f0) ((Qkk l0 a).f1) ((Qkk l0 a).f2) ((Qkk l0 a).f3) D _ A5.out).mono ?_);rintro e w9 ⟨rfl,hb⟩;have n_:=qn2 (Qfe (g:=z) (o:=.cells #[.bool ((Qkk l0 a).f0),.int .u64 ((Qkk l0 a).f1),.string ((Qkk l0 a).f2),.string ((Qkk l0 a).f3)] 39 (0,0)) qq_x hb) (Qgk qq_b hb);clear d HB;obtain⟨d,HB⟩:=n_;(try clear hb);(try clear hb2);(try clear hk);(try clear hi)))
       go_roundg k1
       case measure=>have:=HK1.out;omega
       case rel=>exact⟨(wrap64 (a+1)),qq_8,H',⟨by have:=HK1.out;omega⟩,⟨qq_b⟩⟩
      ·rw[if_neg c6]at H;have ag:(D == 0)=false:=beq_eq_false_iff_ne.mpr c6;have ah:(D != 0)=true:=bne_iff_ne.mpr c6;obtain rfl:=Option.some.inj H;have A:0≤(a:Int):=of_decide_eq_true qq_5;have B:a<(l0.length:Int):=of_decide_eq_true qq_5;obtain⟨am,U,j,l,m,n⟩:=Qkl L.out a A B
       cases U
       replace j:=qq_h HB.out j;replace l:=qq_h HB.out l;replace m:=qq_h HB.out m;replace n:=qq_h HB.out n;replace A:=eq_true A;replace B:=eq_true B
       go_wp2_with (first |((with_reducible refine Qgv (N:=4) rfl ?_);refine qq_e 4 #[.bool false,.int .u64 0,.string (⟨#[]⟩:ByteArray),.string (⟨#[]⟩:ByteArray)] 39 ?_;intro z hg aD hbox hb;have n_:=qn4 (Qgk qq_b hb) (hbox) (qq_s hg:w.heap.size≤z) (qq_s hg:w.heap.size≤z);clear HB;obtain⟨HB,d,an,ao⟩:=n_;clear hb hbox hg;obtain⟨ab,ac,ad,ae⟩:=qc4 d.out;have ap:=Qeq d.out) |(go_at_call 56;(with_reducible refine(Qdg.calls k1 ((Qkk l0 a).f0) ((Qkk l0 a).f1) ((Qkk l0 a).f2) ((Qkk l0 a).f3) D _ A5.out).mono ?_);rintro e aE ⟨rfl,hb⟩;have n_:=qn2 (Qfe (g:=z) (o:=.cells #[.bool ((Qkk l0 a).f0),.int .u64 ((Qkk l0 a).f1),.string ((Qkk l0 a).f2),.string ((Qkk l0 a).f3)] 39 (0,0)) qq_x hb) (Qgk qq_b hb);clear d HB;obtain⟨d,HB⟩:=n_;(try clear hb);(try clear hb2);(try clear hk);(try clear hi)))
       go_ret
       exact⟨qq_7,qq_b⟩
     ·rw[if_neg c4]at H;exact absurd H (by simp)
    ·rw[if_neg c3]at H;exact absurd H (by simp)
   ·rw [if_neg c2]at H;have af:=decide_eq_false c2;clear c2;have H':=QA H;clear H;go_wp2
    repeat(go_quiet (fail);try go_wp2)
    go_loopg [6] k1 (fun kq v6 w'=>∃(b:Int),v6=.int .i64 b∧Aside0 (Qdh.l1 kq l0 b=some r)∧Aside0 (kq≤k1)∧Aside0 (Below w.heap.size w w'))
    case atStart=>exact⟨(1),qq_8,H',⟨Nat.le_refl _⟩,⟨qq_b⟩⟩
    case round =>
     clear H'
     try clear c2
     try clear af
     try clear c3
     try clear av
     try clear c4
     try clear aw
     try clear c6
     try clear ag
     try clear ah
     try clear ab
     try clear ac
     try clear ad
     try clear ae
     try clear ai
     try clear aj
     try clear ak
     try clear al
     try clear ap
     try clear ax
     try clear j
     try clear l
     try clear m
     try clear n
     try clear A
     try clear B
     obtain⟨b,rfl,HA,HK2,HB⟩:=hrel
     cases gk with
     | zero=>exact absurd HA.out (by simp[Qdh.l1])
     | succ k2 =>
      have H:=HA.out;clear HA;simp only[Qdh.l1]at H
      by_cases M:b<(l0.length:Int)
      ·rw [if_pos M]at H;have aq:=decide_eq_true M;clear M
       by_cases Y:0≤b
       ·rw [if_pos Y]at H;have az:=decide_eq_true Y;clear Y;obtain⟨c,K⟩:∃j_:Int,(wrap64 (b-1))=j_:=⟨_,rfl⟩;replace H:(if 0≤(c)then(if(c)<(l0.length:Int)then(if((Qkk l0 b).f1)≤((Qkk l0 (c)).f1)then(some 8)else(Qdh.l1 k2 l0 (wrap64 (b+1))))else(none))else(none))=some r:=by first |(rw[K]at H;exact H) |(simp only[K]at H ⊢;exact H)
        have ay:(IntKind.i64.wrap (b-1))=c:=(Qhx _).trans K
        by_cases Z:0≤(c)
        ·rw[if_pos Z]at H;have aA:=decide_eq_true Z;clear Z
         by_cases aa:(c)<(l0.length:Int)
         ·rw[if_pos aa]at H;have aB:=decide_eq_true aa;clear aa
          by_cases O:((Qkk l0 b).f1)≤((Qkk l0 (c)).f1)
          ·rw[if_pos O]at H;have ar:=decide_eq_true O;clear O;obtain rfl:=Option.some.inj H;have E:0≤(b:Int):=of_decide_eq_true qq_5;have G:b<(l0.length:Int):=of_decide_eq_true qq_5;obtain⟨P,W,p,q,s,t⟩:=Qkl L.out b E G
           cases W
           replace p:=qq_h HB.out p;replace q:=qq_h HB.out q;replace s:=qq_h HB.out s;replace t:=qq_h HB.out t;replace E:=eq_true E;replace G:=eq_true G;have I:0≤((c):Int):=of_decide_eq_true qq_5;have J:(c)<(l0.length:Int):=of_decide_eq_true qq_5;obtain⟨T,X,u,v,x,y⟩:=Qkl L.out (c) I J;obtain rfl:P=T:=(by injection X);replace u:=qq_h HB.out u;replace v:=qq_h HB.out v;replace x:=qq_h HB.out x;replace y:=qq_h HB.out y;replace I:=eq_true I;replace J:=eq_true J;go_wp2
           repeat(go_quiet (fail);try go_wp2)
           go_ret
           exact⟨by first|rfl |(simp[Qkb,Qkc]<;>rfl) |(simp only[← K];first|rfl |(simp[Qkb,Qkc]<;>rfl)) |(simp[*,Qkb,Qkc]<;>rfl),qq_b⟩
          ·rw[if_neg O]at H;have ar:=decide_eq_false O;clear O;have H':=QA H;clear H;have E:0≤(b:Int):=of_decide_eq_true qq_5;have G:b<(l0.length:Int):=of_decide_eq_true qq_5;obtain⟨P,W,p,q,s,t⟩:=Qkl L.out b E G
           cases W
           replace p:=qq_h HB.out p;replace q:=qq_h HB.out q;replace s:=qq_h HB.out s;replace t:=qq_h HB.out t;replace E:=eq_true E;replace G:=eq_true G;have I:0≤((c):Int):=of_decide_eq_true qq_5;have J:(c)<(l0.length:Int):=of_decide_eq_true qq_5;obtain⟨T,X,u,v,x,y⟩:=Qkl L.out (c) I J;obtain rfl:P=T:=(by injection X);replace u:=qq_h HB.out u;replace v:=qq_h HB.out v;replace x:=qq_h HB.out x;replace y:=qq_h HB.out y;replace I:=eq_true I;replace J:=eq_true J;go_wp2
           repeat(go_quiet (fail);try go_wp2)
           go_roundg k2
           case measure=>have:=HK1.out;have:=HK2.out;omega
           case rel=>exact⟨(wrap64 (b+1)),qq_8,H',⟨by have:=HK1.out;have:=HK2.out;omega⟩,⟨qq_b⟩⟩
         ·rw[if_neg aa]at H;exact absurd H (by simp)
        ·rw[if_neg Z]at H;exact absurd H (by simp)
       ·rw[if_neg Y]at H;exact absurd H (by simp)
      ·rw[if_neg M]at H;have aq:=decide_eq_false M;clear M;obtain rfl:=Option.some.inj H;go_wp2
       repeat(go_quiet (fail);try go_wp2)
       go_ret
       exact⟨qq_7,qq_b⟩
def Qdi.f(k:Nat)(a0_0:Int)(a0_1:Int)(a1_0:Int)(a1_1:Int):Option (Int):=(Qag.f a0_0 a1_0).bind fun t215=>((Qaf.f a0_1 a1_1).bind fun t216=>((Qah.f k (([t215,t216]:List Int))).bind fun t220=>(some t220)))
def Qdi.T1:Bool × List (List Nat × List Nat):=(true,[([],[]),([0],[0]),([],[]),([2],[2]),([1,3],[1,3]),([],[]),([5],[5]),([],[]),([7],[7]),([6,8,4],[6,8]),([4,9],[4,9]),([10,9],[10]),([11,11,0,1,2,3,4,5,6,7,8,9,10,11],[11])])
def Qdi.B1:List Nat:=[0,1,0,4,15,0,32,0,128,511,1023,2047,4095]
theorem Qdi.tab1:rtab .any (Qjd Tryz.f118 1)=Qdi.T1:=by kernel_rfl
theorem Qdi.bits1:Qix Qdi.T1.2 Qdi.B1=true:=by kernel_rfl
theorem Qdi.calls(k:Nat)(j:Int)(l:Int)(p:Int)(q:Int)(r:Int)(w:World)(h:Qdi.f k j l p q=some r) :
  Calls Tryz.prog 118 #[.agg #[.int .u64 j,.int .u32 l],.agg #[.int .u64 p,.int .u32 q]] w fun e w'=>e=.returned (.int .i64 r)∧Below w.heap.size w w':=by
 have hu117:=Tryz.underlying117;have HB:=QA (Below.refl w.heap.size w);have H:((Qag.f j p).bind fun s=>((Qaf.f l q).bind fun t=>((Qah.f k (([s,t]:List Int))).bind fun v=>(some v))))=some r:=h;clear h;replace H:=Option.bind_eq_some_iff.mp H;obtain⟨s,D,H⟩:=H;have A3:=QA D;clear D;replace H:=Option.bind_eq_some_iff.mp H;obtain⟨t,E,H⟩:=H;have A4:=QA E;clear E;obtain⟨z,u⟩:∃y_:List Int,y_=(([s,t]:List Int)):=⟨_,rfl⟩;replace H:((Qah.f k z).bind fun v=>(some v))=some r:=by first |(rw[u];with_reducible exact H) |(have B:=(Option.bind_some _ _).symm.trans H;rw[u];with_reducible exact B) |(have B:=(Option.bind_some _ _).symm.trans H;with_reducible exact B)|with_reducible exact H |(rw[u];exact H)|exact H
 have A:=QA u;clear u;replace H:=Option.bind_eq_some_iff.mp H;obtain⟨v,G,H⟩:=H;have A5:=QA G;clear G;obtain rfl:=Option.some.inj H
 go_enter Tryz.func118,Tryz.ntmps118
 try go_wp2_with (first |((with_reducible refine Qgv (N:=2) rfl ?_);refine qq_e 2 #[.int .u64 j,.int .u32 l] 117 ?_;intro c hg w6 hbox hb;have n_:=qn4 (Qgk qq_b hb) (hbox) (qq_s hg:w.heap.size≤c) (qq_s hg:w.heap.size≤c);clear HB;obtain⟨HB,a,L,O⟩:=n_;clear hb hbox hg) |((with_reducible refine Qgv (N:=3) rfl ?_);refine qq_e 3 #[.int .u64 p,.int .u32 q] 117 ?_;intro m hg w7 hbox hb;have n_:=qn7 (Qfe (g:=c) (o:=.cells #[.int .u64 j,.int .u32 l] 117 (0,0)) qq_0 hb) (Qgk qq_b hb) (hbox) (qq_s hg:w.heap.size≤m) (qq_s hg:w.heap.size≤m) ((by rw[hg];exact Nat.ne_of_lt (Qeo (g:=c) (o:=.cells #[.int .u64 j,.int .u32 l] 117 (0,0)) qq_0):c≠m)) ((by rw[hg];exact Nat.ne_of_gt (Qeo (g:=c) (o:=.cells #[.int .u64 j,.int .u32 l] 117 (0,0)) qq_0):m≠c));clear a HB;obtain⟨a,HB,b,P,T,I,J⟩:=n_;clear hb hbox hg))
 have n_:=qn3 (Qfc a.out) (Qfc b.out) (Qgr HB.out);clear a b HB;obtain⟨a,b,HB⟩:=n_;refine Qhk (n:=13) (S:=fun w'=>w'.cell? ⟨c,0,none⟩=some (.int .u64 j)∧w'.cell? ⟨c,1,none⟩=some (.int .u32 l)∧w'.cell? ⟨m,0,none⟩=some (.int .u64 p)∧w'.cell? ⟨m,1,none⟩=some (.int .u32 q)) (ds:=[]) (bm 13 0) qq_6 rfl rfl ⟨(Qep a.out 0).trans rfl,(Qep a.out 1).trans rfl,(Qep b.out 0).trans rfl,(Qep b.out 1).trans rfl⟩ (fun d=>?_);refine Qjb Qdi.tab1 Qdi.bits1 (fun HT_ HW_=>?_);generalize w7.drew=w8 at a b HB d ⊢;refine pz_ (i:=0) (N:=some 5) (bm 13 1) (Qit HT_.out qq_6) ?_;refine pz_ (i:=2) (N:=some 7) (bm 13 5) (Qit HT_.out qq_6) ?_;refine pz_ (i:=5) (N:=some 10) (bm 13 37) (Qit HT_.out qq_6) ?_;refine pz_ (i:=7) (N:=some 12) (bm 13 165) (Qit HT_.out qq_6) ?_;refine tz_ (i:=1) (N:=some 6) (bm 13 167) (Qja HT_.out HW_.out qq_6) d ?_;refine tz_ (i:=3) (N:=some 8) (bm 13 175) (Qja HT_.out HW_.out qq_6) d ?_;refine tz_ (i:=6) (N:=some 11) (bm 13 239) (Qja HT_.out HW_.out qq_6) d ?_;refine tz_ (i:=8) (N:=some 13) (bm 13 495) (Qja HT_.out HW_.out qq_6) d ?_;refine one_ (i:=4) (N:=some 9) (bm 13 511) rfl rfl (Qiu HT_.out qq_6) (by decide) (fun K hK=>?_);refine Qht Tryz.func166 qq_6 rfl #[.int .u64 j,.int .u64 p] (by rfl) rfl rfl qq_1 ?_;with_reducible refine(Qag.calls j p s _ A3.out).mono ?_
 rintro e w' ⟨rfl,⟨nd,rfl⟩⟩;refine⟨_,rfl,?_⟩;refine hK.out _ _ ⟨(Qep a.out 0).trans rfl,(Qep a.out 1).trans rfl,(Qep b.out 0).trans rfl,(Qep b.out 1).trans rfl⟩ (fun d=>?_);clear hK K;refine nzp_ 9 ?_;refine one_ (i:=9) (N:=some 14) (bm 13 1023) rfl rfl (Qiu HT_.out qq_6) (by decide) (fun K hK=>?_);refine Qht Tryz.func167 qq_6 rfl #[.int .u32 l,.int .u32 q] (by rfl) rfl rfl qq_1 ?_;with_reducible refine(Qaf.calls l q t _ A4.out).mono ?_
 rintro e w' ⟨rfl,⟨nd,rfl⟩⟩;refine⟨_,rfl,?_⟩;refine hK.out _ _ ⟨(Qep a.out 0).trans rfl,(Qep a.out 1).trans rfl,(Qep b.out 0).trans rfl,(Qep b.out 1).trans rfl⟩ (fun d=>?_);clear hK K;refine nzp_ 14 ?_;refine one_ (i:=10) (N:=some 15) (bm 13 2047) rfl rfl (Qiu HT_.out qq_6) (by decide) (fun K hK=>?_);refine Kd.R_lit_step (Kd.int .i64) _ 3 ?hg (N:=15) ?hd (xs:=([s,t]:List Int)) (inner:=[.int .i64 s,.int .i64 t]) (ok:=fun _=>True) (okp:=fun _=>True) ?hr ?hp (fun _ hk=>hk) trivial (Below.refl _ _) (Nat.le_refl _) (by simp) ?_;(case hd=>rfl);(case hg=>rfl);(case hr=>exact qq_14);(case hp=>exact(Reps.one (show Kd.M (Kd.int .i64) _ _ _ s [.int .i64 s] from rfl) (Reps.one (show Kd.M (Kd.int .i64) _ _ _ t [.int .i64 t] from rfl) (Reps.none _ _))));intro U w9 x hb hg_ hnew_;clear hg_ hnew_
 (first|rw[← A.out]at x |(simp only[Int.reduceToNat]at x;rw[← A.out]at x))
 have n_:=qn4 (Kd.R_lower x (Qgj qq_b)) (Qfe (g:=c) (o:=.cells #[.int .u64 j,.int .u32 l] 117 (0,0)) qq_0 hb) (Qfe (g:=m) (o:=.cells #[.int .u64 p,.int .u32 q] 117 (0,0)) qq_0 hb) (Qgk qq_b hb);clear a b HB;obtain⟨y,a,b,HB⟩:=n_;clear hb x;obtain⟨Ao11,co11,eo11⟩:=Kd.R_slice y.out
 (first|subst eo11 |(injection eo11 with f1_ f2_ f3_;have f4_:=f1_.symm;have f5_:=f3_.symm;clear f1_ f2_ f3_;subst f4_;subst f5_))
 refine hK.out _ _ ⟨(Qep a.out 0).trans rfl,(Qep a.out 1).trans rfl,(Qep b.out 0).trans rfl,(Qep b.out 1).trans rfl⟩ (fun d=>?_);clear hK K;refine nzp_ 15 ?_;refine one_ (i:=11) (N:=some 16) (bm 13 4095) rfl rfl (Qiu HT_.out qq_6) (by decide) (fun K hK=>?_);refine Qht Tryz.func165 qq_6 rfl #[.slice Ao11 z.length co11] (by rfl) rfl rfl qq_1 ?_;with_reducible refine(Qah.calls k _ _ z v _ ?side1 ?side2 A5.out).mono ?_
 (case side1=>repeat(first|exact(Kd.R_reads' y.out).2.2 |(with_reducible refine Kd.C_alloc ?_ _) |(with_reducible refine Kd.C_drewN ?_ _) |(with_reducible refine Kd.C_drew ?_)))
 (case side2=>exact(Kd.R_reads' y.out).2.1)
 rintro e w' ⟨rfl,⟨nd,rfl⟩⟩;refine⟨_,rfl,?_⟩;refine hK.out _ _ ⟨(Qep a.out 0).trans rfl,(Qep a.out 1).trans rfl,(Qep b.out 0).trans rfl,(Qep b.out 1).trans rfl⟩ (fun d=>?_);clear hK K;refine nzp_ 16 ?_;refine pz_ (i:=12) (N:=some 4) (bm 13 8191) (Qit HT_.out qq_6) ?_;refine Qhn (Qiw HT_.out qq_6) ?_
 try go_wp2
 go_ret
 exact⟨qq_7,qq_b⟩
def Qdj.l0:Nat→List (S117)→Int→Option (Bool)
 | 0,_,_=>none
 | k+1,x0,x3=>if x3<(x0.length:Int)then(if 0≤(wrap64 (x3-1))then(if(wrap64 (x3-1))<(x0.length:Int)then(if 0≤x3 then((Qdi.f k ((Qkp x0 (wrap64 (x3-1))).f0) ((Qkp x0 (wrap64 (x3-1))).f1) ((Qkp x0 x3).f0) ((Qkp x0 x3).f1)).bind fun t225=>(if t225≥0 then(some false)else(Qdj.l0 k x0 (wrap64 (x3+1)))))else(none))else(none))else(none))else(some true)
def Qdj.f(k:Nat)(l0:List (S117)):Option (Bool):=Qdj.l0 k l0 1
def Qdj.T4:Bool × List (List Nat × List Nat):=(true,[([],[]),([],[]),([1],[1]),([0,2],[0,2]),([3],[3]),([],[]),([],[]),([5,6],[5,6]),([7],[7]),([4,8],[4,8]),([9],[9])])
def Qdj.B4:List Nat:=[0,0,2,7,15,0,0,96,224,511,1023]
theorem Qdj.tab4:rtab .any (Qjd Tryz.f160 4)=Qdj.T4:=by kernel_rfl
theorem Qdj.bits4:Qix Qdj.T4.2 Qdj.B4=true:=by kernel_rfl
theorem Qdj.calls (k:Nat) (A0:Option Addr) (c0:Nat) (l0:List (S117)) (r:Bool) (w:World) (hr0:Kd.C k117 w A0 l0.length l0) (hc0:l0.length≤c0) (h:Qdj.f k l0=some r) :
  Calls Tryz.prog 160 #[.slice A0 l0.length c0] w fun e w'=>e=.returned (.bool r)∧Below w.heap.size w w':=by
 have hu117:=Tryz.underlying117;have z:=QA hr0;have L:=QA hc0;clear hr0 hc0;have HB:=QA (Below.refl w.heap.size w);have H:(Qdj.l0 k l0 1)=some r:=h;clear h;have H':=QA H;clear H
 go_enter Tryz.func160,Tryz.ntmps160
 go_wp2
 go_loopg [3] k (fun kq v3 w'=>∃(a:Int),v3=.int .i64 a∧Aside0 (Qdj.l0 kq l0 a=some r)∧Aside0 (kq≤k)∧Aside0 (Below w.heap.size w w'))
 case atStart=>exact⟨(1),qq_8,H',⟨Nat.le_refl _⟩,⟨qq_b⟩⟩
 case round =>
  clear H';obtain⟨a,rfl,HA,HK1,HB⟩:=hrel
  cases gk with
  | zero=>exact absurd HA.out (by simp[Qdj.l0])
  | succ k1 =>
   have H:=HA.out;clear HA;simp only[Qdj.l0]at H
   by_cases c2:a<(l0.length:Int)
   ·rw [if_pos c2]at H;have B:=decide_eq_true c2;clear c2;obtain⟨b,u⟩:∃j_:Int,(wrap64 (a-1))=j_:=⟨_,rfl⟩;replace H:(if 0≤(b)then(if(b)<(l0.length:Int)then(if 0≤a then((Qdi.f k1 ((Qkp l0 (b)).f0) ((Qkp l0 (b)).f1) ((Qkp l0 a).f0) ((Qkp l0 a).f1)).bind fun o=>(if o≥0 then(some false)else(Qdj.l0 k1 l0 (wrap64 (a+1)))))else(none))else(none))else(none))=some r:=by first |(rw[u]at H;exact H) |(simp only[u]at H ⊢;exact H)
    have E:(IntKind.i64.wrap (a-1))=b:=(Qhx _).trans u
    by_cases c4:0≤(b)
    ·rw [if_pos c4]at H;have G:=decide_eq_true c4;clear c4
     by_cases c5:(b)<(l0.length:Int)
     ·rw[if_pos c5]at H;have I:=decide_eq_true c5;clear c5
      by_cases c6:0≤a
      ·rw[if_pos c6]at H;have J:=decide_eq_true c6;clear c6;replace H:=Option.bind_eq_some_iff.mp H;obtain⟨o,A,H⟩:=H;have A7:=QA A;clear A
       by_cases c8:o≥0
       ·rw[if_pos c8]at H;have D:decide (0≤o)=true:=decide_eq_true c8;clear c8;obtain rfl:=Option.some.inj H
        try go_wp2
        have n_:=qn1 (Qgr HB.out);clear HB;have HB:=n_;clear n_;have p:0≤((b):Int):=of_decide_eq_true qq_5;have q:(b)<(l0.length:Int):=of_decide_eq_true qq_5;obtain⟨c,x,d,g⟩:=Qkq z.out (b) p q;have hw223_1:=g;have hw223_0:=d
        cases x
        replace d:=qq_h HB.out d;replace g:=qq_h HB.out g;replace p:=eq_true p;replace q:=eq_true q;have s:0≤(a:Int):=of_decide_eq_true qq_5;have t:a<(l0.length:Int):=of_decide_eq_true qq_5;obtain⟨v,y,j,l⟩:=Qkq z.out a s t;have hw224_1:=l;have hw224_0:=j;obtain rfl:c=v:=(by injection y);replace j:=qq_h HB.out j;replace l:=qq_h HB.out l;replace s:=eq_true s;replace t:=eq_true t;refine Qhk (n:=11) (S:=fun w'=>w'.cell? (c.add (((b)).toNat*2))=some (.int .u64 ((Qkp l0 (b)).f0))∧w'.cell? ⟨(c.add (((b)).toNat*2)).block,(c.add (((b)).toNat*2)).off+1,none⟩=some (.int .u32 ((Qkp l0 (b)).f1))∧w'.cell? (c.add ((a).toNat*2))=some (.int .u64 ((Qkp l0 a).f0))∧w'.cell? ⟨(c.add ((a).toNat*2)).block,(c.add ((a).toNat*2)).off+1,none⟩=some (.int .u32 ((Qkp l0 a).f1))) (ds:=[]) (bm 11 0) qq_6 rfl rfl ⟨((HB.out.cell (World.block_lt_of_cell? w _ hw223_0)).trans hw223_0),((HB.out.cell (World.block_lt_of_cell? w _ hw223_1)).trans hw223_1),((HB.out.cell (World.block_lt_of_cell? w _ hw224_0)).trans hw224_0),((HB.out.cell (World.block_lt_of_cell? w _ hw224_1)).trans hw224_1)⟩ (fun m=>?_);refine Qjb Qdj.tab4 Qdj.bits4 (fun HT_ HW_=>?_);generalize wr.drew=w9 at HB d g j l m ⊢;refine pz_ (i:=0) (N:=some 10) (bm 11 1) (Qit HT_.out qq_6) ?_;refine pz_ (i:=1) (N:=some 11) (bm 11 3) (Qit HT_.out qq_6) ?_;refine pz_ (i:=2) (N:=some 12) (bm 11 7) (Qit HT_.out qq_6) ?_;refine pz_ (i:=3) (N:=some 13) (bm 11 15) (Qit HT_.out qq_6) ?_;refine pz_ (i:=5) (N:=some 15) (bm 11 47) (Qit HT_.out qq_6) ?_;refine pz_ (i:=6) (N:=some 16) (bm 11 111) (Qit HT_.out qq_6) ?_;refine pz_ (i:=7) (N:=some 17) (bm 11 239) (Qit HT_.out qq_6) ?_;refine tz_ (i:=4) (N:=some 14) (bm 11 255) (Qja HT_.out HW_.out qq_6) m ?_;refine tz_ (i:=8) (N:=some 18) (bm 11 511) (Qja HT_.out HW_.out qq_6) m ?_;refine one_ (i:=9) (N:=some 19) (bm 11 1023) rfl rfl (Qiu HT_.out qq_6) (by decide) (fun K hK=>?_);refine Qht Tryz.func118 qq_6 rfl #[.agg #[.int .u64 ((Qkp l0 (b)).f0),.int .u32 ((Qkp l0 (b)).f1)],.agg #[.int .u64 ((Qkp l0 a).f0),.int .u32 ((Qkp l0 a).f1)]] (by rfl) rfl rfl (by(try simp only[List.map_toArray,List.map_cons,List.map_nil]);first|done |(simp only[u];rfl)|rfl |(simp only[List.length_drop,List.length_take];rfl)) ?_;with_reducible refine(Qdi.calls k1 ((Qkp l0 (b)).f0) ((Qkp l0 (b)).f1) ((Qkp l0 a).f0) ((Qkp l0 a).f1) o _ A7.out).mono ?_
        rintro e M ⟨rfl,hb⟩;refine⟨_,rfl,?_⟩;have n_:=qn1 (Qgk qq_b hb);clear HB;have HB:=n_;clear n_
        (try clear hb)
        (try clear hb2)
        (try clear hk)
        (try clear hi)
        refine hK.out _ _ ⟨((HB.out.cell (World.block_lt_of_cell? w _ hw223_0)).trans hw223_0),((HB.out.cell (World.block_lt_of_cell? w _ hw223_1)).trans hw223_1),((HB.out.cell (World.block_lt_of_cell? w _ hw224_0)).trans hw224_0),((HB.out.cell (World.block_lt_of_cell? w _ hw224_1)).trans hw224_1)⟩ (fun m=>?_);clear hK K;refine nzp_ 19 ?_;refine pz_ (i:=10) (N:=some 20) (bm 11 2047) (Qit HT_.out qq_6) ?_;refine Qhn (Qiw HT_.out qq_6) ?_
        try go_wp2
        go_ret
        exact⟨by first|rfl |(simp[Qkb,Qkc]<;>rfl) |(simp only[← u];first|rfl |(simp[Qkb,Qkc]<;>rfl)) |(simp[*,Qkb,Qkc]<;>rfl),qq_b⟩
       ·rw[if_neg c8]at H;have D:decide (0≤o)=false:=decide_eq_false c8;clear c8;have H':=QA H;clear H
        try go_wp2
        have n_:=qn1 (Qgr HB.out);clear HB;have HB:=n_;clear n_;have p:0≤((b):Int):=of_decide_eq_true qq_5;have q:(b)<(l0.length:Int):=of_decide_eq_true qq_5;obtain⟨c,x,d,g⟩:=Qkq z.out (b) p q;have hw223_1:=g;have hw223_0:=d
        cases x
        replace d:=qq_h HB.out d;replace g:=qq_h HB.out g;replace p:=eq_true p;replace q:=eq_true q;have s:0≤(a:Int):=of_decide_eq_true qq_5;have t:a<(l0.length:Int):=of_decide_eq_true qq_5;obtain⟨v,y,j,l⟩:=Qkq z.out a s t;have hw224_1:=l;have hw224_0:=j;obtain rfl:c=v:=(by injection y);replace j:=qq_h HB.out j;replace l:=qq_h HB.out l;replace s:=eq_true s;replace t:=eq_true t;refine Qhk (n:=11) (S:=fun w'=>w'.cell? (c.add (((b)).toNat*2))=some (.int .u64 ((Qkp l0 (b)).f0))∧w'.cell? ⟨(c.add (((b)).toNat*2)).block,(c.add (((b)).toNat*2)).off+1,none⟩=some (.int .u32 ((Qkp l0 (b)).f1))∧w'.cell? (c.add ((a).toNat*2))=some (.int .u64 ((Qkp l0 a).f0))∧w'.cell? ⟨(c.add ((a).toNat*2)).block,(c.add ((a).toNat*2)).off+1,none⟩=some (.int .u32 ((Qkp l0 a).f1))) (ds:=[]) (bm 11 0) qq_6 rfl rfl ⟨((HB.out.cell (World.block_lt_of_cell? w _ hw223_0)).trans hw223_0),((HB.out.cell (World.block_lt_of_cell? w _ hw223_1)).trans hw223_1),((HB.out.cell (World.block_lt_of_cell? w _ hw224_0)).trans hw224_0),((HB.out.cell (World.block_lt_of_cell? w _ hw224_1)).trans hw224_1)⟩ (fun m=>?_);refine Qjb Qdj.tab4 Qdj.bits4 (fun HT_ HW_=>?_);generalize wr.drew=w11 at HB d g j l m ⊢;refine pz_ (i:=0) (N:=some 10) (bm 11 1) (Qit HT_.out qq_6) ?_;refine pz_ (i:=1) (N:=some 11) (bm 11 3) (Qit HT_.out qq_6) ?_;refine pz_ (i:=2) (N:=some 12) (bm 11 7) (Qit HT_.out qq_6) ?_;refine pz_ (i:=3) (N:=some 13) (bm 11 15) (Qit HT_.out qq_6) ?_;refine pz_ (i:=5) (N:=some 15) (bm 11 47) (Qit HT_.out qq_6) ?_;refine pz_ (i:=6) (N:=some 16) (bm 11 111) (Qit HT_.out qq_6) ?_;refine pz_ (i:=7) (N:=some 17) (bm 11 239) (Qit HT_.out qq_6) ?_;refine tz_ (i:=4) (N:=some 14) (bm 11 255) (Qja HT_.out HW_.out qq_6) m ?_;refine tz_ (i:=8) (N:=some 18) (bm 11 511) (Qja HT_.out HW_.out qq_6) m ?_;refine one_ (i:=9) (N:=some 19) (bm 11 1023) rfl rfl (Qiu HT_.out qq_6) (by decide) (fun K hK=>?_);refine Qht Tryz.func118 qq_6 rfl #[.agg #[.int .u64 ((Qkp l0 (b)).f0),.int .u32 ((Qkp l0 (b)).f1)],.agg #[.int .u64 ((Qkp l0 a).f0),.int .u32 ((Qkp l0 a).f1)]] (by rfl) rfl rfl (by(try simp only[List.map_toArray,List.map_cons,List.map_nil]);first|done |(simp only[u];rfl)|rfl |(simp only[List.length_drop,List.length_take];rfl)) ?_;with_reducible refine(Qdi.calls k1 ((Qkp l0 (b)).f0) ((Qkp l0 (b)).f1) ((Qkp l0 a).f0) ((Qkp l0 a).f1) o _ A7.out).mono ?_
        rintro e O ⟨rfl,hb⟩;refine⟨_,rfl,?_⟩;have n_:=qn1 (Qgk qq_b hb);clear HB;have HB:=n_;clear n_
        (try clear hb)
        (try clear hb2)
        (try clear hk)
        (try clear hi)
        refine hK.out _ _ ⟨((HB.out.cell (World.block_lt_of_cell? w _ hw223_0)).trans hw223_0),((HB.out.cell (World.block_lt_of_cell? w _ hw223_1)).trans hw223_1),((HB.out.cell (World.block_lt_of_cell? w _ hw224_0)).trans hw224_0),((HB.out.cell (World.block_lt_of_cell? w _ hw224_1)).trans hw224_1)⟩ (fun m=>?_);clear hK K;refine nzp_ 19 ?_;refine pz_ (i:=10) (N:=some 20) (bm 11 2047) (Qit HT_.out qq_6) ?_;refine Qhn (Qiw HT_.out qq_6) ?_
        try go_wp2
        go_roundg k1
        case measure=>have:=HK1.out;omega
        case rel=>exact⟨(wrap64 (a+1)),qq_8,H',⟨by have:=HK1.out;omega⟩,⟨qq_b⟩⟩
      ·rw[if_neg c6]at H;exact absurd H (by simp)
     ·rw[if_neg c5]at H;exact absurd H (by simp)
    ·rw[if_neg c4]at H;exact absurd H (by simp)
   ·rw[if_neg c2]at H;have B:=decide_eq_false c2;clear c2;obtain rfl:=Option.some.inj H;go_wp2;go_ret
    exact⟨qq_7,qq_b⟩
theorem eqA117(d:Nat)(w:World)(x0 y0:Int)(x1 y1:Int) :
  (Op.equalIn (d+2) 117 (.agg #[.int .u64 x0,.int .u32 x1]) (.agg #[.int .u64 y0,.int .u32 y1])).run Tryz.prog w=.ok (x0 == y0 && (x1 == y1)) w:=by
 refine Qjk Tryz.underlying117 qq_6 ?_;refine Qjj (by rfl) (by go_simp;rfl) (by go_simp;rfl) (by go_simp) ?_;exact Qji (by rfl) (by go_simp;rfl) (by go_simp;rfl) (by go_simp)
def Qbl.f(a0_0:Int)(a0_1:Int):Option (Bool):=if a0_0≥12 then(if a0_0≤24 then(if a0_1≥1 then(some (decide (a0_1≤65536)))else(some false))else(some false))else(some false)
theorem Qbl.calls(c:Int)(d:Int)(r:Bool)(w:World)(h:Qbl.f c d=some r) :
  Calls Tryz.prog 54 #[.agg #[.int .u8 c,.int .u32 d]] w fun e w'=>e=.returned (.bool r)∧Below w.heap.size w w':=by
 have hu27:=Tryz.underlying27;have HB:=QA (Below.refl w.heap.size w);have H:(if c≥12 then(if c≤24 then(if d≥1 then(some (decide (d≤65536)))else(some false))else(some false))else(some false))=some r:=h;clear h
 by_cases c2:c≥12
 ·rw[if_pos c2]at H;have k:decide (12≤c)=true:=decide_eq_true c2;clear c2
  by_cases c3:c≤24
  ·rw[if_pos c3]at H;have l:=decide_eq_true c3;clear c3
   by_cases c4:d≥1
   ·rw[if_pos c4]at H;have m:decide (1≤d)=true:=decide_eq_true c4;clear c4;obtain rfl:=Option.some.inj H
    go_enter Tryz.func54,Tryz.ntmps54
    go_wp2_with (first |((with_reducible refine Qgv (N:=1) rfl ?_);refine qq_e 1 #[.int .u8 c,.int .u32 d] 27 ?_;intro a hg w5 hbox hb;have n_:=qn4 (Qgk qq_b hb) (hbox) (qq_s hg:w.heap.size≤a) (qq_s hg:w.heap.size≤a);clear HB;obtain⟨HB,b,g,j⟩:=n_;clear hb hbox hg;obtain⟨s,t⟩:=qc2 b.out;have z:=Qeq b.out))
    go_ret
    exact⟨qq_7,qq_b⟩
   ·rw[if_neg c4]at H;have m:decide (1≤d)=false:=decide_eq_false c4;clear c4;obtain rfl:=Option.some.inj H
    go_enter Tryz.func54,Tryz.ntmps54
    go_wp2_with (first |((with_reducible refine Qgv (N:=1) rfl ?_);refine qq_e 1 #[.int .u8 c,.int .u32 d] 27 ?_;intro a hg w7 hbox hb;have n_:=qn4 (Qgk qq_b hb) (hbox) (qq_s hg:w.heap.size≤a) (qq_s hg:w.heap.size≤a);clear HB;obtain⟨HB,b,g,j⟩:=n_;clear hb hbox hg;obtain⟨u,v⟩:=qc2 b.out;have A:=Qeq b.out))
    go_ret
    exact⟨qq_7,qq_b⟩
  ·rw[if_neg c3]at H;have l:=decide_eq_false c3;clear c3;obtain rfl:=Option.some.inj H
   go_enter Tryz.func54,Tryz.ntmps54
   go_wp2_with (first |((with_reducible refine Qgv (N:=1) rfl ?_);refine qq_e 1 #[.int .u8 c,.int .u32 d] 27 ?_;intro a hg w9 hbox hb;have n_:=qn4 (Qgk qq_b hb) (hbox) (qq_s hg:w.heap.size≤a) (qq_s hg:w.heap.size≤a);clear HB;obtain⟨HB,b,g,j⟩:=n_;clear hb hbox hg;obtain⟨n,o⟩:=qc2 b.out;have x:=Qeq b.out))
   go_ret
   exact⟨qq_7,qq_b⟩
 ·rw[if_neg c2]at H;have k:decide (12≤c)=false:=decide_eq_false c2;clear c2;obtain rfl:=Option.some.inj H
  go_enter Tryz.func54,Tryz.ntmps54
  go_wp2_with (first |((with_reducible refine Qgv (N:=1) rfl ?_);refine qq_e 1 #[.int .u8 c,.int .u32 d] 27 ?_;intro a hg B hbox hb;have n_:=qn4 (Qgk qq_b hb) (hbox) (qq_s hg:w.heap.size≤a) (qq_s hg:w.heap.size≤a);clear HB;obtain⟨HB,b,g,j⟩:=n_;clear hb hbox hg;obtain⟨p,q⟩:=qc2 b.out;have y:=Qeq b.out))
  go_ret
  exact⟨qq_7,qq_b⟩
def Qau.l0:Nat→Int→ByteArray→Int→Int→Option (ByteArray)
 | 0,_,_,_,_=>none
 | k+1,x0,x5,x6,x7=>if x7<x6 then((some (([(Int.tmod x0 256)%256]:List Int):List Int)).bind fun y286=>(if x5.size+(strOfNums y286).size≤9223372036854775807 then(Qau.l0 k (IntKind.u64.wrap (Int.tdiv x0 256)) (x5++(strOfNums y286)) x6 (wrap64 (x7+1)))else(none)))else(some x5)
def Qau.f(k:Nat)(a0:Int)(a1:Int):Option (ByteArray):=Qau.l0 k a0 (⟨#[]⟩:ByteArray) a1 0
theorem Qau.calls(k:Nat)(a0:Int)(a1:Int)(r:ByteArray)(w:World)(h:Qau.f k a0 a1=some r) :
  Calls Tryz.prog 103 #[.int .u64 a0,.int .i64 a1] w fun e w'=>e=.returned (.string r)∧Below w.heap.size w w':=by
 have HB:=QA (Below.refl w.heap.size w);have H:(Qau.l0 k a0 (⟨#[]⟩:ByteArray) a1 0)=some r:=h;clear h;have H':=QA H;clear H
 go_enter Tryz.func103,Tryz.ntmps103
 go_wp2
 go_loopg [0,5,7] k (fun kq v0 v5 v7 w'=>∃(a:Int) (x5_1:ByteArray) (c:Int),v0=.int .u64 a∧v5=.string x5_1∧v7=.int .i64 c∧Aside0 (Qau.l0 kq a x5_1 a1 c=some r)∧Aside0 (kq≤k)∧Aside0 (Below w.heap.size w w'))
 case atStart=>exact⟨(a0),((⟨#[]⟩:ByteArray)),(0),qq_8,qq_8,qq_8,H',⟨Nat.le_refl _⟩,⟨qq_b⟩⟩
 case round =>
  clear H';obtain⟨a,x5_1,c,rfl,rfl,rfl,HA,HK1,HB⟩:=hrel
  cases gk with
  | zero=>exact absurd HA.out (by simp[Qau.l0])
  | succ k1 =>
   have H:=HA.out;clear HA;simp only[Qau.l0]at H
   by_cases c3:c<a1
   ·rw[if_pos c3]at H;have n:=decide_eq_true c3;clear c3;obtain⟨d,b⟩:∃y_:List Int,y_=(([(Int.tmod a 256)%256]:List Int)):=⟨_,rfl⟩;replace H:(if x5_1.size+(strOfNums d).size≤9223372036854775807 then(Qau.l0 k1 (IntKind.u64.wrap (Int.tdiv a 256)) (x5_1++(strOfNums d)) a1 (wrap64 (c+1)))else(none))=some r:=by first |(rw[b];with_reducible exact H) |(have l:=(Option.bind_some _ _).symm.trans H;rw[b];with_reducible exact l) |(have l:=(Option.bind_some _ _).symm.trans H;with_reducible exact l)|with_reducible exact H |(rw[b];exact H)|exact H
    have j:=QA b;clear b
    by_cases c4:x5_1.size+(strOfNums d).size≤9223372036854775807
    ·rw[if_pos c4]at H;have o:=eq_true c4;have p:=decide_eq_true c4
     try have q:(9223372036854775807<x5_1.size+(strOfNums d).size)=False:=eq_false (Nat.not_lt.2 c4)
     have H':=QA H;clear H
     go_wp2_with (first |((with_reducible refine Qgv (N:=13) rfl ?_);refine Kd.R_lit (Kd.int .u8) _ 5 ?hg (N:=13) ?hd (xs:=([(Int.tmod a 256)%256]:List Int)) (inner:=[.int .u8 ((Int.tmod a 256)%256)]) (ok:=fun _=>True) (okp:=fun _=>True) ?hr ?hp (fun _ hk=>hk) trivial (Below.refl _ _) (Nat.le_refl _) (by simp) ?_;(case hd=>rfl);(case hg=>rfl);(case hr=>exact qq_14);(case hp=>exact(Reps.one (show Kd.M (Kd.int .u8) _ _ _ ((Int.tmod a 256)%256) [.int .u8 ((Int.tmod a 256)%256)] from rfl) (Reps.none _ _)));intro s w5 g hb hg_ hnew_;clear hg_ hnew_;(first|rw[← j.out]at g |(simp only[Int.reduceToNat]at g;rw[← j.out]at g));have n_:=qn2 (Kd.R_lower g (Qgj qq_b)) (Qgk qq_b hb);clear HB;obtain⟨m,HB⟩:=n_;clear hb g;have t:=Qea (P:=Tryz.prog) Tryz.underlying52 Tryz.underlying5 Tryz.underlying9 (Kd.own_of_R m.out)))
     go_roundg k1
     case measure=>have:=HK1.out;omega
     case rel=>exact⟨(IntKind.u64.wrap (Int.tdiv a 256)),(x5_1++(strOfNums d)),(wrap64 (c+1)),qq_8,qq_8,qq_8,H',⟨by have:=HK1.out;omega⟩,⟨qq_b⟩⟩
    ·rw[if_neg c4]at H;exact absurd H (by simp)
   ·rw[if_neg c3]at H;have n:=decide_eq_false c3;clear c3;obtain rfl:=Option.some.inj H;go_wp2;go_ret
    exact⟨qq_7,qq_b⟩
def Qbb.l0:Nat→Int→Int→Int→Option (Int)
 | 0,_,_,_=>none
 | k+1,x0,x5,x6=>if x6<x5 then(Qbb.l0 k (IntKind.u64.wrap ((Int.tmod (IntKind.u64.wrap (2*x0)) 4294967296)+(IntKind.u64.wrap (Int.tdiv x0 2147483648)))) x5 (wrap64 (x6+1)))else(some x0)
def Qbb.f(k:Nat)(a0:Int)(a1:Int):Option (Int):=Qbb.l0 k a0 a1 0
theorem Qbb.calls(k:Nat)(a0:Int)(a1:Int)(r:Int)(w:World)(h:Qbb.f k a0 a1=some r) :
  Calls Tryz.prog 237 #[.int .u64 a0,.int .i64 a1] w fun e w'=>e=.returned (.int .u64 r)∧Drawn0 w w':=by
 have H:(Qbb.l0 k a0 a1 0)=some r:=h;clear h;have H':=QA H;clear H
 go_enter Tryz.func237,Tryz.ntmps237
 go_wp2
 go_loopg [0,6] k (fun kq v0 v6 w'=>∃(a:Int) (b:Int),v0=.int .u64 a∧v6=.int .i64 b∧Aside0 (Qbb.l0 kq a a1 b=some r)∧Aside0 (kq≤k)∧Drawn0 w w')
 case atStart=>exact⟨(a0),(0),qq_8,qq_8,H',⟨Nat.le_refl _⟩,by repeat(first|exact Drawn0.refl _|apply Drawn0.step)⟩
 case round =>
  clear H';obtain⟨a,b,rfl,rfl,HA,HK1,⟨m1,rfl⟩⟩:=hrel
  cases gk with
  | zero=>exact absurd HA.out (by simp[Qbb.l0])
  | succ k1 =>
   have H:=HA.out;clear HA;simp only[Qbb.l0]at H
   by_cases c3:b<a1
   ·rw[if_pos c3]at H;have c:=decide_eq_true c3;clear c3;have H':=QA H;clear H;go_wp2
    go_roundg k1
    case measure=>have:=HK1.out;omega
    case rel=>exact⟨(IntKind.u64.wrap ((Int.tmod (IntKind.u64.wrap (2*a)) 4294967296)+(IntKind.u64.wrap (Int.tdiv a 2147483648)))),(wrap64 (b+1)),qq_8,qq_8,H',⟨by have:=HK1.out;omega⟩,by repeat(first|exact Drawn0.refl _|apply Drawn0.step)⟩
   ·rw[if_neg c3]at H;have c:=decide_eq_false c3;clear c3;obtain rfl:=Option.some.inj H;go_wp2;go_ret
    exact⟨by first|rfl |(simp;done) |(simp[*];done),by repeat(first|exact Drawn0.refl _|apply Drawn0.step)⟩
def Qaz.f(k:Nat)(a0:Int)(a1:Int):Option (Int):=(Qbb.f k (Int.tmod (IntKind.u64.wrap (a0+(IntKind.u64.wrap (a1*2246822519)))) 4294967296) 13).bind fun t771=>(some (Int.tmod (IntKind.u64.wrap (t771*2654435761)) 4294967296))
theorem Qaz.calls(k:Nat)(a0:Int)(a1:Int)(r:Int)(w:World)(h:Qaz.f k a0 a1=some r) :
  Calls Tryz.prog 236 #[.int .u64 a0,.int .u64 a1] w fun e w'=>e=.returned (.int .u64 r)∧Drawn0 w w':=by
 have H:((Qbb.f k (Int.tmod (IntKind.u64.wrap (a0+(IntKind.u64.wrap (a1*2246822519)))) 4294967296) 13).bind fun t771=>(some (Int.tmod (IntKind.u64.wrap (t771*2654435761)) 4294967296)))=some r:=h;clear h;replace H:=Option.bind_eq_some_iff.mp H;obtain⟨t771,A30,H⟩:=H;have A3:=QA A30;clear A30;obtain rfl:=Option.some.inj H
 go_enter Tryz.func236,Tryz.ntmps236
 go_wp2_with (first |((with_reducible refine Qju (f:=237) rfl ?_);refine Qhu (some 10) rfl rfl Tryz.func237 qq_6 rfl #[.int .u64 (Int.tmod (IntKind.u64.wrap (a0+(IntKind.u64.wrap (a1*2246822519)))) 4294967296),.int .i64 13] rfl qq_1 ?_;(with_reducible refine(Qbb.calls k (Int.tmod (IntKind.u64.wrap (a0+(IntKind.u64.wrap (a1*2246822519)))) 4294967296) 13 t771 _ A3.out).mono ?_);rintro e w' ⟨rfl,⟨nd,rfl⟩⟩;refine⟨_,rfl,?_⟩))
 go_ret
 exact⟨by first|rfl |(simp;done) |(simp[*];done),by repeat(first|exact Drawn0.refl _|apply Drawn0.step)⟩
def Qba.l0:Nat→Int→Int→Int→Int→Option (Int)
 | 0,_,_,_,_=>none
 | k+1,x0,x5,x7,x8=>if x8<x7 then(Qba.l0 k x0 (IntKind.u64.wrap (Int.tdiv x5 2)) x7 (wrap64 (x8+1)))else(some (Go.bits .xor .u64 x0 x5))
def Qba.f(k:Nat)(a0:Int)(a1:Int):Option (Int):=Qba.l0 k a0 a0 a1 0
theorem Qba.calls(k:Nat)(a0:Int)(a1:Int)(r:Int)(w:World)(h:Qba.f k a0 a1=some r) :
  Calls Tryz.prog 238 #[.int .u64 a0,.int .i64 a1] w fun e w'=>e=.returned (.int .u64 r)∧Drawn0 w w':=by
 have H:(Qba.l0 k a0 a0 a1 0)=some r:=h;clear h;have H':=QA H;clear H
 go_enter Tryz.func238,Tryz.ntmps238
 go_wp2
 go_loopg [5,8] k (fun kq v5 v8 w'=>∃(x5_1:Int) (x8_1:Int),v5=.int .u64 x5_1∧v8=.int .i64 x8_1∧Aside0 (Qba.l0 kq a0 x5_1 a1 x8_1=some r)∧Aside0 (kq≤k)∧Drawn0 w w')
 case atStart=>exact⟨(a0),(0),qq_8,qq_8,H',⟨Nat.le_refl _⟩,by repeat(first|exact Drawn0.refl _|apply Drawn0.step)⟩
 case round =>
  clear H';obtain⟨x5_1,x8_1,rfl,rfl,HA,HK1,⟨m1,rfl⟩⟩:=hrel
  cases gk with
  | zero=>exact absurd HA.out (by simp[Qba.l0])
  | succ k1 =>
   have H:=HA.out;clear HA;simp only[Qba.l0]at H
   by_cases c3:x8_1<a1
   ·rw[if_pos c3]at H;have a:=decide_eq_true c3;clear c3;have H':=QA H;clear H;go_wp2
    go_roundg k1
    case measure=>have:=HK1.out;omega
    case rel=>exact⟨(IntKind.u64.wrap (Int.tdiv x5_1 2)),(wrap64 (x8_1+1)),qq_8,qq_8,H',⟨by have:=HK1.out;omega⟩,by repeat(first|exact Drawn0.refl _|apply Drawn0.step)⟩
   ·rw[if_neg c3]at H;have a:=decide_eq_false c3;clear c3;obtain rfl:=Option.some.inj H;go_wp2;go_ret
    exact⟨by first|rfl |(simp;done) |(simp[*];done),by repeat(first|exact Drawn0.refl _|apply Drawn0.step)⟩
def Qbm.l0:Nat→Int→Int→Int→Option (Int)
 | 0,_,_,_=>none
 | k+1,x3,x5,x6=>if x6<x5 then(Qbm.l0 k (IntKind.u64.wrap (2*x3)) x5 ((x6+1)%256))else(some x3)
def Qbm.f(k:Nat)(a0_0:Int)(a0_1:Int):Option (Int):=Qbm.l0 k 1 a0_0 0
theorem Qbm.calls(k:Nat)(a:Int)(d:Int)(r:Int)(w:World)(h:Qbm.f k a d=some r) :
  Calls Tryz.prog 63 #[.agg #[.int .u8 a,.int .u32 d]] w fun e w'=>e=.returned (.int .u64 r)∧Below w.heap.size w w':=by
 have hu27:=Tryz.underlying27;have HB:=QA (Below.refl w.heap.size w);have H:(Qbm.l0 k 1 a 0)=some r:=h;clear h;have H':=QA H;clear H
 go_enter Tryz.func63,Tryz.ntmps63
 go_wp2_with (first |((with_reducible refine Qgv (N:=1) rfl ?_);refine qq_e 1 #[.int .u8 a,.int .u32 d] 27 ?_;intro g hg w2 hbox hb;have n_:=qn4 (Qgk qq_b hb) (hbox) (qq_s hg:w.heap.size≤g) (qq_s hg:w.heap.size≤g);clear HB;obtain⟨HB,b,p,q⟩:=n_;clear hb hbox hg;obtain⟨l,m⟩:=qc2 b.out;have n:=Qeq b.out))
 go_loopg [3,6] k (fun kq v3 v6 w'=>∃(j:Int) (c:Int),v3=.int .u64 j∧v6=.int .u8 c∧Aside0 (Qbm.l0 kq j a c=some r)∧Aside0 (kq≤k)∧Aside0 (w'.heap[g]? = some (.cells #[.int .u8 a,.int .u32 d] 27 (0,0)))∧Aside0 (Below w.heap.size w w'))
 case atStart=>exact⟨(1),(0),qq_8,qq_8,H',⟨Nat.le_refl _⟩,⟨by(with_reducible repeat(first|apply Qfd|apply Qfc|apply Qfb));exact b.out⟩,⟨qq_b⟩⟩
 case round =>
  clear H'
  try clear l
  try clear m
  try clear n
  obtain⟨j,c,rfl,rfl,HA,HK1,b,HB⟩:=hrel
  cases gk with
  | zero=>exact absurd HA.out (by simp[Qbm.l0])
  | succ k1 =>
   have H:=HA.out;clear HA;simp only[Qbm.l0]at H
   by_cases c4:c<a
   ·rw[if_pos c4]at H;have o:=decide_eq_true c4;clear c4;have H':=QA H;clear H;go_wp2
    go_roundg k1
    case measure=>have:=HK1.out;omega
    case rel=>exact⟨(IntKind.u64.wrap (2*j)),((c+1)%256),qq_8,qq_8,H',⟨by have:=HK1.out;omega⟩,⟨by(with_reducible repeat(first|apply Qfd|apply Qfc|apply Qfb));exact b.out⟩,⟨qq_b⟩⟩
   ·rw[if_neg c4]at H;have o:=decide_eq_false c4;clear c4;obtain rfl:=Option.some.inj H;go_wp2;go_ret
    exact⟨qq_7,qq_b⟩
end Go.Proofs.YtnnofopfbeklbaaGreat.C
end
