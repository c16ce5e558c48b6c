/- Merged texts. -/
import Derived.Test.YteaocbonofboeaaGreatMA02
import Derived.Test.YteaocbonofboeaaGreatMA03
set_option linter.unusedVariables false
set_option linter.unusedSimpArgs false
set_option maxHeartbeats 8000000
set_option maxRecDepth 100000
section
namespace Go.Proofs.YteaocbonofboeaaGreat.C
open Go.RowKit Go.Proofs.YteaocbonofboeaaGreatW.PrintWords Go.Proofs.YteaocbonofboeaaGreatW.PrintLast Go.Proofs.YteaocbonofboeaaGreatW.PrintMore
attribute [local go_sem] Qiz Qja Qjb Qjc Qjd Qje Qjf Qjg
mutual
def Qdb.l0:Nat→List (S37)→List (S37)→Int→Int→Option (Int)
 | 0,_,_,_,_=>none
 | k+1,x0,x7,x8,x9=>if x9<x8 then(if 0≤x9 then(if x9<(x7.length:Int)then((Qcz.f k ((Qjw x7 x9).f0) ((Qjw x7 x9).f1) ((Qjw x7 x9).f2) ((Qjw x7 x9).f3)).bind fun t208=>(if t208=0 then(Qdb.l0 k x0 x7 x8 (wrap64 (x9+1)))else(some t208)))else(none))else(none))else(Qdb.l1 k x0 1)
def Qdb.l1:Nat→List (S37)→Int→Option (Int)
 | 0,_,_=>none
 | k+1,x0,x6=>if x6<(x0.length:Int)then(if 0≤x6 then(if 0≤(wrap64 (x6-1))then(if(wrap64 (x6-1))<(x0.length:Int)then(if((Qjw x0 x6).f1)≤((Qjw x0 (wrap64 (x6-1))).f1)then(some 8)else(Qdb.l1 k x0 (wrap64 (x6+1))))else(none))else(none))else(none))else(some 0)
end
def Qdb.f(k:Nat)(l0:List (S37)):Option (Int):=Qdb.l0 k l0 l0 (l0.length:Int) 0
theorem Qdb.calls (k:Nat) (A0:Option Addr) (c0:Nat) (l0:List (S37)) (r:Int) (w:World) (hr0:Kd.C k37 w A0 l0.length l0) (hc0:l0.length≤c0) (h:Qdb.f k l0=some r) :
  Calls Tryz.prog 130 #[.slice A0 l0.length c0] w fun e w'=>e=.returned (.int .i64 r)∧Below w.heap.size w w':=by
 have hu37:=Tryz.underlying37;have L:=QA hr0;have aC:=QA hc0;clear hr0 hc0;have HB:=QA (Below.refl w.heap.size w);have H:(Qdb.l0 k l0 l0 (l0.length:Int) 0)=some r:=h;clear h;have H':=QA H;clear H
 go_enter Tryz.func130,Tryz.ntmps130
 go_wp2
 repeat(go_quiet (fail);try go_wp2)
 go_loopg [9] k (fun kq v9 w'=>∃(a:Int),v9=.int .i64 a∧Aside0 (Qdb.l0 kq l0 l0 (l0.length:Int) a=some r)∧Aside0 (kq≤k)∧Aside0 (Below w.heap.size w w'))
 case atStart=>exact⟨(0),qq_7,H',⟨Nat.le_refl _⟩,⟨qq_b⟩⟩
 case round =>
  clear H';obtain⟨a,rfl,HA,HK1,HB⟩:=hrel
  cases gk with
  | zero=>exact absurd HA.out (by simp[Qdb.l0])
  | succ k1 =>
   have H:=HA.out;clear HA;simp only[Qdb.l0]at H
   by_cases c2:a<(l0.length:Int)
   ·rw [if_pos c2]at H;have af:=decide_eq_true c2;clear c2
    by_cases c3:0≤a
    ·rw[if_pos c3]at H;have av:=decide_eq_true c3;clear c3
     by_cases c4:a<(l0.length:Int)
     ·rw[if_pos c4]at H;have aw:=decide_eq_true c4;clear c4;replace H:=Option.bind_eq_some_iff.mp H;obtain⟨D,au,H⟩:=H;have A5:=QA au;clear au
      by_cases c6:D=0
      ·rw[if_pos c6]at H;have ag:(D == 0)=true:=beq_iff_eq.mpr c6;have ah:(D != 0)=false:=bne_eq_false_iff_eq.mpr c6;clear c6;have H':=QA H;clear H;have A:0≤(a:Int):=of_decide_eq_true qq_3;have B:a<(l0.length:Int):=of_decide_eq_true qq_3;obtain⟨am,U,j,l,m,n⟩:=Qjx L.out a A B
       cases U
       replace j:=qq_h HB.out j;replace l:=qq_h HB.out l;replace m:=qq_h HB.out m;replace n:=qq_h HB.out n;replace A:=eq_true A;replace B:=eq_true B
       go_wp2_with (first |((with_reducible refine Qgj (N:=4) rfl ?_);refine qq_e 4 #[.bool false,.int .u64 0,.string (⟨#[]⟩:ByteArray),.string (⟨#[]⟩:ByteArray)] 37 ?_;intro z hg w7 hbox hb;have n_:=qn4 (Qfy qq_b hb) (hbox) (qq_s hg:w.heap.size≤z) (qq_s hg:w.heap.size≤z);clear HB;obtain⟨HB,d,an,ao⟩:=n_;clear hb hbox hg;obtain⟨ai,aj,ak,al⟩:=qc4 d.out;have ax:=Qej d.out) |(go_at_call 58;(with_reducible refine(Qcz.calls k1 ((Qjw l0 a).f0) ((Qjw l0 a).f1) ((Qjw l0 a).f2) ((Qjw l0 a).f3) D _ A5.out).mono ?_);rintro e w9 ⟨rfl,hb⟩;have n_:=qn2 (Qex (g:=z) (o:=.cells #[.bool ((Qjw l0 a).f0),.int .u64 ((Qjw l0 a).f1),.string ((Qjw l0 a).f2),.string ((Qjw l0 a).f3)] 37 (0,0)) qq_x hb) (Qfy qq_b hb);clear d HB;obtain⟨d,HB⟩:=n_;(try clear hb);(try clear hb2);(try clear hk);(try clear hi)))
       go_roundg k1
       case measure=>have:=HK1.out;omega
       case rel=>exact⟨(wrap64 (a+1)),qq_7,H',⟨by have:=HK1.out;omega⟩,⟨qq_b⟩⟩
      ·rw[if_neg c6]at H;have ag:(D == 0)=false:=beq_eq_false_iff_ne.mpr c6;have ah:(D != 0)=true:=bne_iff_ne.mpr c6;obtain rfl:=Option.some.inj H;have A:0≤(a:Int):=of_decide_eq_true qq_3;have B:a<(l0.length:Int):=of_decide_eq_true qq_3;obtain⟨am,U,j,l,m,n⟩:=Qjx L.out a A B
       cases U
       replace j:=qq_h HB.out j;replace l:=qq_h HB.out l;replace m:=qq_h HB.out m;replace n:=qq_h HB.out n;replace A:=eq_true A;replace B:=eq_true B
       go_wp2_with (first |((with_reducible refine Qgj (N:=4) rfl ?_);refine qq_e 4 #[.bool false,.int .u64 0,.string (⟨#[]⟩:ByteArray),.string (⟨#[]⟩:ByteArray)] 37 ?_;intro z hg aD hbox hb;have n_:=qn4 (Qfy qq_b hb) (hbox) (qq_s hg:w.heap.size≤z) (qq_s hg:w.heap.size≤z);clear HB;obtain⟨HB,d,an,ao⟩:=n_;clear hb hbox hg;obtain⟨ab,ac,ad,ae⟩:=qc4 d.out;have ap:=Qej d.out) |(go_at_call 58;(with_reducible refine(Qcz.calls k1 ((Qjw l0 a).f0) ((Qjw l0 a).f1) ((Qjw l0 a).f2) ((Qjw l0 a).f3) D _ A5.out).mono ?_);rintro e aE ⟨rfl,hb⟩;have n_:=qn2 (Qex (g:=z) (o:=.cells #[.bool ((Qjw l0 a).f0),.int .u64 ((Qjw l0 a).f1),.string ((Qjw l0 a).f2),.string ((Qjw l0 a).f3)] 37 (0,0)) qq_x hb) (Qfy qq_b hb);clear d HB;obtain⟨d,HB⟩:=n_;(try clear hb);(try clear hb2);(try clear hk);(try clear hi)))
       go_ret
       exact⟨qq_5,qq_b⟩
     ·rw[if_neg c4]at H;exact absurd H (by simp)
    ·rw[if_neg c3]at H;exact absurd H (by simp)
   ·rw [if_neg c2]at H;have af:=decide_eq_false c2;clear c2;have H':=QA H;clear H;go_wp2
    repeat(go_quiet (fail);try go_wp2)
    go_loopg [6] k1 (fun kq v6 w'=>∃(b:Int),v6=.int .i64 b∧Aside0 (Qdb.l1 kq l0 b=some r)∧Aside0 (kq≤k1)∧Aside0 (Below w.heap.size w w'))
    case atStart=>exact⟨(1),qq_7,H',⟨Nat.le_refl _⟩,⟨qq_b⟩⟩
    case round =>
     clear H'
     try clear c2
     try clear af
     try clear c3
     try clear av
     try clear c4
     try clear aw
     try clear c6
     try clear ag
     try clear ah
     try clear ab
     try clear ac
     try clear ad
     try clear ae
     try clear ai
     try clear aj
     try clear ak
     try clear al
     try clear ap
     try clear ax
     try clear j
     try clear l
     try clear m
     try clear n
     try clear A
     try clear B
     obtain⟨b,rfl,HA,HK2,HB⟩:=hrel
     cases gk with
     | zero=>exact absurd HA.out (by simp[Qdb.l1])
     | succ k2 =>
      have H:=HA.out;clear HA;simp only[Qdb.l1]at H
      by_cases M:b<(l0.length:Int)
      ·rw [if_pos M]at H;have aq:=decide_eq_true M;clear M
       by_cases Y:0≤b
       ·rw [if_pos Y]at H;have az:=decide_eq_true Y;clear Y;obtain⟨c,K⟩:∃j_:Int,(wrap64 (b-1))=j_:=⟨_,rfl⟩;replace H:(if 0≤(c)then(if(c)<(l0.length:Int)then(if((Qjw l0 b).f1)≤((Qjw l0 (c)).f1)then(some 8)else(Qdb.l1 k2 l0 (wrap64 (b+1))))else(none))else(none))=some r:=by first |(rw[K]at H;exact H) |(simp only[K]at H ⊢;exact H)
        have ay:(IntKind.i64.wrap (b-1))=c:=(Qhh _).trans K
        by_cases Z:0≤(c)
        ·rw[if_pos Z]at H;have aA:=decide_eq_true Z;clear Z
         by_cases aa:(c)<(l0.length:Int)
         ·rw[if_pos aa]at H;have aB:=decide_eq_true aa;clear aa
          by_cases O:((Qjw l0 b).f1)≤((Qjw l0 (c)).f1)
          ·rw[if_pos O]at H;have ar:=decide_eq_true O;clear O;obtain rfl:=Option.some.inj H;have E:0≤(b:Int):=of_decide_eq_true qq_3;have G:b<(l0.length:Int):=of_decide_eq_true qq_3;obtain⟨P,W,p,q,s,t⟩:=Qjx L.out b E G
           cases W
           replace p:=qq_h HB.out p;replace q:=qq_h HB.out q;replace s:=qq_h HB.out s;replace t:=qq_h HB.out t;replace E:=eq_true E;replace G:=eq_true G;have I:0≤((c):Int):=of_decide_eq_true qq_3;have J:(c)<(l0.length:Int):=of_decide_eq_true qq_3;obtain⟨T,X,u,v,x,y⟩:=Qjx L.out (c) I J;obtain rfl:P=T:=(by injection X);replace u:=qq_h HB.out u;replace v:=qq_h HB.out v;replace x:=qq_h HB.out x;replace y:=qq_h HB.out y;replace I:=eq_true I;replace J:=eq_true J;go_wp2
           repeat(go_quiet (fail);try go_wp2)
           go_ret
           exact⟨by first|rfl |(simp[Qjm,Qjn]<;>rfl) |(simp only[← K];first|rfl |(simp[Qjm,Qjn]<;>rfl)) |(simp[*,Qjm,Qjn]<;>rfl),qq_b⟩
          ·rw[if_neg O]at H;have ar:=decide_eq_false O;clear O;have H':=QA H;clear H;have E:0≤(b:Int):=of_decide_eq_true qq_3;have G:b<(l0.length:Int):=of_decide_eq_true qq_3;obtain⟨P,W,p,q,s,t⟩:=Qjx L.out b E G
           cases W
           replace p:=qq_h HB.out p;replace q:=qq_h HB.out q;replace s:=qq_h HB.out s;replace t:=qq_h HB.out t;replace E:=eq_true E;replace G:=eq_true G;have I:0≤((c):Int):=of_decide_eq_true qq_3;have J:(c)<(l0.length:Int):=of_decide_eq_true qq_3;obtain⟨T,X,u,v,x,y⟩:=Qjx L.out (c) I J;obtain rfl:P=T:=(by injection X);replace u:=qq_h HB.out u;replace v:=qq_h HB.out v;replace x:=qq_h HB.out x;replace y:=qq_h HB.out y;replace I:=eq_true I;replace J:=eq_true J;go_wp2
           repeat(go_quiet (fail);try go_wp2)
           go_roundg k2
           case measure=>have:=HK1.out;have:=HK2.out;omega
           case rel=>exact⟨(wrap64 (b+1)),qq_7,H',⟨by have:=HK1.out;have:=HK2.out;omega⟩,⟨qq_b⟩⟩
         ·rw[if_neg aa]at H;exact absurd H (by simp)
        ·rw[if_neg Z]at H;exact absurd H (by simp)
       ·rw[if_neg Y]at H;exact absurd H (by simp)
      ·rw[if_neg M]at H;have aq:=decide_eq_false M;clear M;obtain rfl:=Option.some.inj H;go_wp2
       repeat(go_quiet (fail);try go_wp2)
       go_ret
       exact⟨qq_5,qq_b⟩
def Qdc.l0:Nat→List (S37)→List (S74)→Int→Int→Option ((List (S37)))
 | 0,_,_,_,_=>none
 | k+1,x3,x6,x7,x8=>if x8<x7 then(if 0≤x8 then(if x8<(x6.length:Int)then(if x3.length<2932031007402 then(Qdc.l0 k (x3++[(⟨(Qka x6 x8).f0.f0,(Qka x6 x8).f0.f1,(Qka x6 x8).f0.f2,(Qka x6 x8).f0.f3⟩:S37)]) x6 x7 (wrap64 (x8+1)))else(none))else(none))else(none))else(some x3)
def Qdc.f(k:Nat)(l0:List (S74)):Option ((List (S37))):=Qdc.l0 k ([]:List (S37)) l0 (l0.length:Int) 0
theorem Qdc.calls(k:Nat)(A0:Option Addr)(c0:Nat)(l0:List (S74))(r:List (S37))(w:World)(hr0:Kd.C k74 w A0 l0.length l0)(hc0:l0.length≤c0)(h:Qdc.f k l0=some r) :
  Calls Tryz.prog 36 #[.slice A0 l0.length c0] w fun e w'=>∃G:Value,e=.returned (G)∧Kd.R k37 37 w' w.heap.size (fun _=>True) G r∧Below w.heap.size w w':=by
 have hu74:=Tryz.underlying74;have hu37:=Tryz.underlying37;have L:=QA hr0;have af:=QA hc0;clear hr0 hc0;have HB:=QA (Below.refl w.heap.size w);have H:(Qdc.l0 k ([]:List (S37)) l0 (l0.length:Int) 0)=some r:=h;clear h;have H':=QA H;clear H
 go_enter Tryz.func36,Tryz.ntmps36
 go_wp2
 go_loopg [3,8] k (fun kq v3 v8 w'=>∃(l:List (S37)) (a:Int),v8=.int .i64 a∧Aside0 (Qdc.l0 kq l l0 (l0.length:Int) a=some r)∧Aside0 (kq≤k)∧Aside0 (Kd.R k37 37 w' w.heap.size (fun _=>True) v3 l)∧Aside0 (Below w.heap.size w w'))
 case atStart=>exact⟨(([]:List (S37))),(0),qq_7,H',⟨Nat.le_refl _⟩,⟨by first|exact Kd.R_nil _ _ _ _ _|exact Kd.N_nil _ _ _ _ _|exact Kd.V_nil _ _ _ _ _|exact Kd.Q_nil _ _ _ _ _|exact Kd.S_nil _ _ _ _ _⟩,⟨qq_b⟩⟩
 case round =>
  clear H';obtain⟨l,a,rfl,HA,HK1,m,HB⟩:=hrel
  cases gk with
  | zero=>exact absurd HA.out (by simp[Qdc.l0])
  | succ k1 =>
   have H:=HA.out;clear HA;simp only[Qdc.l0]at H
   by_cases c2:a<(l0.length:Int)
   ·rw [if_pos c2]at H;have I:=decide_eq_true c2;clear c2
    by_cases c3:0≤a
    ·rw[if_pos c3]at H;have ab:=decide_eq_true c3;clear c3
     by_cases c4:a<(l0.length:Int)
     ·rw[if_pos c4]at H;have ac:=decide_eq_true c4;clear c4
      by_cases c5:l.length<2932031007402
      ·rw[if_pos c5]at H;have J:=QA c5;clear c5;obtain⟨A,j⟩:∃y_:List (S37),y_=(l++[(⟨(Qka l0 a).f0.f0,(Qka l0 a).f0.f1,(Qka l0 a).f0.f2,(Qka l0 a).f0.f3⟩:S37)]):=⟨_,rfl⟩;replace H:(Qdc.l0 k1 A l0 (l0.length:Int) (wrap64 (a+1)))=some r:=by first |(rw[j];with_reducible exact H) |(have B:=(Option.bind_some _ _).symm.trans H;rw[j];with_reducible exact B) |(have B:=(Option.bind_some _ _).symm.trans H;with_reducible exact B)|with_reducible exact H |(rw[j];exact H)|exact H
       have D:=QA j;clear j;have H':=QA H;clear H;have y:0≤(a:Int):=of_decide_eq_true qq_3;have z:a<(l0.length:Int):=of_decide_eq_true qq_3;obtain⟨Y,K,n,q,s,t,u,v,x⟩:=Qkb L.out a y z
       cases K
       replace n:=qq_h HB.out n;replace q:=qq_h HB.out q;replace s:=qq_h HB.out s;replace t:=qq_h HB.out t;replace u:=qq_h HB.out u;replace v:=qq_h HB.out v;replace x:=qq_h HB.out x;replace y:=eq_true y;replace z:=eq_true z
       go_wp2_with (first |((with_reducible refine Qgj (N:=5) rfl ?_);refine qq_e 5 #[.bool false,.int .u64 0,.string (⟨#[]⟩:ByteArray),.string (⟨#[]⟩:ByteArray),.int .u64 0,.int .i64 0,.int .i64 0] 74 ?_;intro c hg w6 hbox hb;have n_:=qn5 (Kd.R_below qq_4 hb) (Qfy qq_b hb) (hbox) (qq_s hg:w.heap.size≤c) (qq_s hg:w.heap.size≤c);clear m HB;obtain⟨m,HB,d,Z,aa⟩:=n_;clear hb hbox hg;obtain⟨M,O,P,T,U,W,X⟩:=qc7 d.out;have ad:=Qej d.out) |((with_reducible refine Qji (b:=.append) (xs:=#[.tmp 12,.tmp 15]) rfl ?_);at_builtin;refine Kd.R_append k37 (w0:=w) w.heap.size rfl (.tmp 12) (.tmp 15) 22 37 (.agg #[(.bool false),(.int .u64 0),(.string ⟨#[]⟩),(.string ⟨#[]⟩)]) 48 rfl Tryz.underlying22 Qjr rfl (by decide) (by omega) u3 l (⟨(Qka l0 a).f0.f0,(Qka l0 a).f0.f1,(Qka l0 a).f0.f2,(Qka l0 a).f0.f3⟩:S37) [.bool ((Qka l0 a).f0.f0),.int .u64 ((Qka l0 a).f0.f1),.string ((Qka l0 a).f0.f2),.string ((Qka l0 a).f0.f3)] (fun _=>True) (fun _=>False) rfl qq_20 ?aP (fun _ hk=>hk.elim) ?aF ?aO ?aB ?aS ?aL ?_;(case aP=>exact Qjv _ _ _ (⟨(Qka l0 a).f0.f0,(Qka l0 a).f0.f1,(Qka l0 a).f0.f2,(Qka l0 a).f0.f3⟩:S37));(case aB=>exact qq_b);(case aF=>exact(fun _ _=>trivial));(case aO=>exact(by(with_reducible repeat(first|apply Kd.R_alloc|apply Kd.R_drewN|apply Kd.R_drew));exact Kd.R_mono (Kd.R_far (p:=⟨c,6,none⟩) (Kd.R_far (p:=⟨c,5,none⟩) (Kd.R_far (p:=⟨c,4,none⟩) (Kd.R_far (p:=⟨c,3,none⟩) (Kd.R_far (p:=⟨c,2,none⟩) (Kd.R_far (p:=⟨c,1,none⟩) (Kd.R_far (p:=⟨c,0,none⟩) (Kd.R_types m.out d.out (by decide)) (fun _ hk=>hk.2) (.bool ((Qka l0 a).f0.f0))) (fun _ hk=>hk.2) (.int .u64 ((Qka l0 a).f0.f1))) (fun _ hk=>hk.2) (.string ((Qka l0 a).f0.f2))) (fun _ hk=>hk.2) (.string ((Qka l0 a).f0.f3))) (fun _ hk=>hk.2) (.int .u64 ((Qka l0 a).f1))) (fun _ hk=>hk.2) (.int .i64 ((Qka l0 a).f2))) (fun _ hk=>hk.2) (.int .i64 ((Qka l0 a).f3))) (fun _ hk=>trivial)));(case aS=>exact(Qfx qq_b));(case aL=>have:=J.out;omega);intro ae w8 ho hb hg hat;rw[← D.out]at ho;have n_:=qn3 (Qek (g:=c) (o:=.cells #[.bool ((Qka l0 a).f0.f0),.int .u64 ((Qka l0 a).f0.f1),.string ((Qka l0 a).f0.f2),.string ((Qka l0 a).f0.f3),.int .u64 ((Qka l0 a).f1),.int .i64 ((Qka l0 a).f2),.int .i64 ((Qka l0 a).f3)] 74 (0,0)) qq_x hg (Kd.R_ne m.out d.out (by decide))) (hb) (ho);clear d HB m;obtain⟨d,HB,E⟩:=n_;clear ho hb hg hat))
       go_roundg k1
       case measure=>have:=HK1.out;omega
       case rel=>exact⟨(A),(wrap64 (a+1)),qq_7,H',⟨by have:=HK1.out;omega⟩,⟨by(with_reducible repeat(first|apply Kd.R_alloc|apply Kd.R_drewN|apply Kd.R_drew));exact E.out⟩,⟨qq_b⟩⟩
      ·rw[if_neg c5]at H;exact absurd H (by simp)
     ·rw[if_neg c4]at H;exact absurd H (by simp)
    ·rw[if_neg c3]at H;exact absurd H (by simp)
   ·rw[if_neg c2]at H;have I:=decide_eq_false c2;clear c2;obtain rfl:=Option.some.inj H;go_wp2;go_ret
    exact⟨_,by first|rfl |(simp[Qjm,Qjn]<;>rfl) |(simp[*,Qjm,Qjn]<;>rfl),by(with_reducible repeat(first|apply Kd.R_alloc|apply Kd.R_drewN|apply Kd.R_drew));exact m.out,qq_b⟩
def Qac.f(a0:Int)(a1:Int):Option (Int × Int):=some (IntKind.u64.wrap ((IntKind.u64.wrap ((IntKind.u64.wrap ((a0/4294967296)*(a1/4294967296)))+((IntKind.u64.wrap ((IntKind.u64.wrap ((a0/4294967296)*(Go.bits .and .u64 a1 4294967295)))+((IntKind.u64.wrap ((Go.bits .and .u64 a0 4294967295)*(Go.bits .and .u64 a1 4294967295)))/4294967296)))/4294967296)))+((IntKind.u64.wrap ((Go.bits .and .u64 (IntKind.u64.wrap ((IntKind.u64.wrap ((a0/4294967296)*(Go.bits .and .u64 a1 4294967295)))+((IntKind.u64.wrap ((Go.bits .and .u64 a0 4294967295)*(Go.bits .and .u64 a1 4294967295)))/4294967296))) 4294967295)+(IntKind.u64.wrap ((Go.bits .and .u64 a0 4294967295)*(a1/4294967296)))))/4294967296)),IntKind.u64.wrap (a0*a1))
theorem Qac.calls(a0:Int)(a1:Int)(r1:Int)(r2:Int)(w:World)(h:Qac.f a0 a1=some (r1,r2)) :
  Calls Tryz.prog 203 #[.int .u64 a0,.int .u64 a1] w fun e w'=>e=.returned (.tuple #[.int .u64 r1,.int .u64 r2])∧Drawn0 w w':=by
 have H:(some (IntKind.u64.wrap ((IntKind.u64.wrap ((IntKind.u64.wrap ((a0/4294967296)*(a1/4294967296)))+((IntKind.u64.wrap ((IntKind.u64.wrap ((a0/4294967296)*(Go.bits .and .u64 a1 4294967295)))+((IntKind.u64.wrap ((Go.bits .and .u64 a0 4294967295)*(Go.bits .and .u64 a1 4294967295)))/4294967296)))/4294967296)))+((IntKind.u64.wrap ((Go.bits .and .u64 (IntKind.u64.wrap ((IntKind.u64.wrap ((a0/4294967296)*(Go.bits .and .u64 a1 4294967295)))+((IntKind.u64.wrap ((Go.bits .and .u64 a0 4294967295)*(Go.bits .and .u64 a1 4294967295)))/4294967296))) 4294967295)+(IntKind.u64.wrap ((Go.bits .and .u64 a0 4294967295)*(a1/4294967296)))))/4294967296)),IntKind.u64.wrap (a0*a1)))=some (r1,r2):=h;clear h;simp only[Option.some.injEq,Prod.mk.injEq]at H;obtain⟨rfl,rfl⟩:=H
 go_enter Tryz.func203,Tryz.ntmps203
 go_wp2
 go_ret2
 exact⟨by first|rfl |(simp;done) |(simp[*];done),by repeat(first|exact Drawn0.refl _|apply Drawn0.step)⟩
def Qab.f(a0:Int)(a1:Int):Option (Int × Int):=(Qac.f a0 a1).bind fun bt175=>(some (bt175.1,bt175.2))
theorem Qab.calls(a0:Int)(a1:Int)(r1:Int)(r2:Int)(w:World)(h:Qab.f a0 a1=some (r1,r2)) :
  Calls Tryz.prog 157 #[.int .u64 a0,.int .u64 a1] w fun e w'=>e=.returned (.tuple #[.int .u64 r1,.int .u64 r2])∧Drawn0 w w':=by
 have H:((Qac.f a0 a1).bind fun bt175=>(some (bt175.1,bt175.2)))=some (r1,r2):=h;clear h;replace H:=Option.bind_eq_some_iff.mp H;obtain⟨⟨t175,t176⟩,A30,H⟩:=H;replace H:(some (t175,t176))=some (r1,r2):=H;have A3:=QA A30;clear A30;simp only[Option.some.injEq,Prod.mk.injEq]at H;obtain⟨rfl,rfl⟩:=H
 go_enter Tryz.func157,Tryz.ntmps157
 go_wp2_with (first |((with_reducible refine Qjh (f:=203) rfl ?_);refine Qhf (some 25) rfl rfl Tryz.func203 qq_6 rfl #[.int .u64 a0,.int .u64 a1] rfl qq_1 ?_;(with_reducible refine(Qac.calls a0 a1 t175 t176 _ A3.out).mono ?_);rintro e w' ⟨rfl,⟨nd,rfl⟩⟩;refine⟨_,rfl,?_⟩))
 go_ret2
 exact⟨by first|rfl |(simp;done) |(simp[*];done),by repeat(first|exact Drawn0.refl _|apply Drawn0.step)⟩
def Qaj.l0:Nat→Int→List Int→Int→Int→Option (Int)
 | 0,_,_,_,_=>none
 | k+1,x3,x6,x7,x8=>if x8<x7 then(if 0≤x8 then(if x8<(x6.length:Int)then(if(rd x6 x8)=x3 then(Qaj.l0 k x3 x6 x7 (wrap64 (x8+1)))else(some (rd x6 x8)))else(none))else(none))else(some x3)
def Qaj.f(k:Nat)(l0:List Int):Option (Int):=Qaj.l0 k 0 l0 (l0.length:Int) 0
theorem Qaj.mono_l:∀k,(∀y0 y1 y2 y3,LeO (Qaj.l0 k y0 y1 y2 y3) (Qaj.l0 (k+1) y0 y1 y2 y3))
 | 0=>fun _ _ _ _ r h=>by simp[Qaj.l0]at h
 | k+1=>by
  have ih0:=Qaj.mono_l k
  ·intro y0 y1 y2 y3;unfold Qaj.l0
   repeat' first
   |(with_reducible exact ih0 _ _ _ _)
   |(with_reducible exact LeO.refl _)
   |(with_reducible exact LeO.none _)
   |(with_reducible refine LeO.ite ?_ ?_)
   |(with_reducible refine LeO.bind ?_ (fun _=>?_))
   | exact ih0 _ _ _ _
   | exact LeO.none _
   | refine LeO.ite ?_ ?_
   | refine LeO.bind ?_ (fun _=>?_)
theorem Qaj.mono:∀a0 k,LeO (Qaj.f k a0) (Qaj.f (k+1) a0):=by
 intro a0 k;have ih0:=Qaj.mono_l k;unfold Qaj.f
 repeat' first
   |(with_reducible exact ih0 _ _ _ _)
   |(with_reducible exact LeO.refl _)
   |(with_reducible exact LeO.none _)
   |(with_reducible refine LeO.ite ?_ ?_)
   |(with_reducible refine LeO.bind ?_ (fun _=>?_))
   | exact ih0 _ _ _ _
   | exact LeO.none _
   | refine LeO.ite ?_ ?_
   | refine LeO.bind ?_ (fun _=>?_)
theorem Qaj.calls(k:Nat)(A0:Option Addr)(c0:Nat)(l0:List Int)(r:Int)(w:World)(hr0:Kd.C (Kd.int .i64) w A0 l0.length l0)(hc0:l0.length≤c0)(h:Qaj.f k l0=some r) :
  Calls Tryz.prog 165 #[.slice A0 l0.length c0] w fun e w'=>e=.returned (.int .i64 r)∧Drawn0 w w':=by
 have l:=QA hr0;have s:=QA hc0;clear hr0 hc0;have H:(Qaj.l0 k 0 l0 (l0.length:Int) 0)=some r:=h;clear h;have H':=QA H;clear H
 go_enter Tryz.func165,Tryz.ntmps165
 go_wp2
 go_loopg [8] k (fun kq v8 w'=>∃(a:Int),v8=.int .i64 a∧Aside0 (Qaj.l0 kq 0 l0 (l0.length:Int) a=some r)∧Aside0 (kq≤k)∧Drawn0 w w')
 case atStart=>exact⟨(0),qq_7,H',⟨Nat.le_refl _⟩,by repeat(first|exact Drawn0.refl _|apply Drawn0.step)⟩
 case round =>
  clear H';obtain⟨a,rfl,HA,HK1,⟨m1,rfl⟩⟩:=hrel
  cases gk with
  | zero=>exact absurd HA.out (by simp[Qaj.l0])
  | succ k1 =>
   have H:=HA.out;clear HA;simp only[Qaj.l0]at H
   by_cases c2:a<(l0.length:Int)
   ·rw [if_pos c2]at H;have m:=decide_eq_true c2;clear c2
    by_cases c3:0≤a
    ·rw[if_pos c3]at H;have p:=decide_eq_true c3;clear c3
     by_cases c4:a<(l0.length:Int)
     ·rw[if_pos c4]at H;have q:=decide_eq_true c4;clear c4
      by_cases c5:(rd l0 a)=0
      ·rw[if_pos c5]at H;have n:((rd l0 a) == 0)=true:=beq_iff_eq.mpr c5;have o:((rd l0 a) != 0)=false:=bne_eq_false_iff_eq.mpr c5;clear c5;have H':=QA H;clear H;have b:0≤(a:Int):=of_decide_eq_true qq_3;have c:a<(l0.length:Int):=of_decide_eq_true qq_3;obtain⟨j,d,g⟩:=Kd.at_int l.out a b c
       cases d
       replace b:=eq_true b;replace c:=eq_true c;go_wp2
       go_roundg k1
       case measure=>have:=HK1.out;omega
       case rel=>exact⟨(wrap64 (a+1)),qq_7,H',⟨by have:=HK1.out;omega⟩,by repeat(first|exact Drawn0.refl _|apply Drawn0.step)⟩
      ·rw[if_neg c5]at H;have n:((rd l0 a) == 0)=false:=beq_eq_false_iff_ne.mpr c5;have o:((rd l0 a) != 0)=true:=bne_iff_ne.mpr c5;obtain rfl:=Option.some.inj H;have b:0≤(a:Int):=of_decide_eq_true qq_3;have c:a<(l0.length:Int):=of_decide_eq_true qq_3;obtain⟨j,d,g⟩:=Kd.at_int l.out a b c
       cases d
       replace b:=eq_true b;replace c:=eq_true c;go_wp2;go_ret
       exact⟨by first|rfl |(simp;done) |(simp[*];done),by repeat(first|exact Drawn0.refl _|apply Drawn0.step)⟩
     ·rw[if_neg c4]at H;exact absurd H (by simp)
    ·rw[if_neg c3]at H;exact absurd H (by simp)
   ·rw[if_neg c2]at H;have m:=decide_eq_false c2;clear c2;obtain rfl:=Option.some.inj H;go_wp2;go_ret
    exact⟨by first|rfl |(simp;done) |(simp[*];done),by repeat(first|exact Drawn0.refl _|apply Drawn0.step)⟩
def Qak.f(a0:Int):Option (Bool):=some (a0 != a0)
theorem Qak.calls(a0:Int)(r:Bool)(w:World)(h:Qak.f a0=some r) :
  Calls Tryz.prog 217 #[.int .u32 a0] w fun e w'=>e=.returned (.bool r)∧Drawn0 w w':=by
 have H:(some (a0 != a0))=some r:=h;clear h;obtain rfl:=Option.some.inj H
 go_enter Tryz.func217,Tryz.ntmps217
 go_wp2;go_ret
 exact⟨by first|rfl |(simp;done) |(simp[*];done),by repeat(first|exact Drawn0.refl _|apply Drawn0.step)⟩
def Qah.f(a0:Int)(a1:Int):Option (Int):=(Qak.f a0).bind fun t272=>((Qak.f a1).bind fun t273=>(if t272=true then(if t273=true then(some 0)else(some (-1)))else(if t273=true then(some 1)else(if a0<a1 then(some (-1))else(if a0 > a1 then(some 1)else(some 0))))))
theorem Qah.calls(a0:Int)(a1:Int)(r:Int)(w:World)(h:Qah.f a0 a1=some r) :
  Calls Tryz.prog 167 #[.int .u32 a0,.int .u32 a1] w fun e w'=>e=.returned (.int .i64 r)∧Drawn0 w w':=by
 have H:((Qak.f a0).bind fun b=>((Qak.f a1).bind fun a=>(if b=true then(if a=true then(some 0)else(some (-1)))else(if a=true then(some 1)else(if a0<a1 then(some (-1))else(if a0 > a1 then(some 1)else(some 0)))))))=some r:=h;clear h;replace H:=Option.bind_eq_some_iff.mp H;obtain⟨b,c,H⟩:=H;have A3:=QA c;clear c;replace H:=Option.bind_eq_some_iff.mp H;obtain⟨a,d,H⟩:=H;have A4:=QA d;clear d
 by_cases c5:b=true
 ·subst c5;rw[if_pos rfl]at H
  by_cases c6:a=true
  ·subst c6;rw[if_pos rfl]at H;obtain rfl:=Option.some.inj H
   go_enter Tryz.func167,Tryz.ntmps167
   go_wp2_with (first |((with_reducible refine Qjh (f:=217) rfl ?_);refine Qhf (some 8) rfl rfl Tryz.func217 qq_6 rfl #[.int .u32 a0] rfl qq_1 ?_;(with_reducible refine(Qak.calls a0 true _ A3.out).mono ?_);rintro e w' ⟨rfl,⟨nd,rfl⟩⟩;refine⟨_,rfl,?_⟩) |((with_reducible refine Qjh (f:=217) rfl ?_);refine Qhf (some 10) rfl rfl Tryz.func217 qq_6 rfl #[.int .u32 a1] rfl qq_1 ?_;(with_reducible refine(Qak.calls a1 true _ A4.out).mono ?_);rintro e w' ⟨rfl,⟨nd,rfl⟩⟩;refine⟨_,rfl,?_⟩))
   go_ret
   exact⟨by first|rfl |(simp;done) |(simp[*];done),by repeat(first|exact Drawn0.refl _|apply Drawn0.step)⟩
  ·replace c6:=Bool.eq_false_iff.mpr c6;subst c6;rw[if_neg (show ¬(false=true)by decide)]at H;obtain rfl:=Option.some.inj H
   go_enter Tryz.func167,Tryz.ntmps167
   go_wp2_with (first |((with_reducible refine Qjh (f:=217) rfl ?_);refine Qhf (some 8) rfl rfl Tryz.func217 qq_6 rfl #[.int .u32 a0] rfl qq_1 ?_;(with_reducible refine(Qak.calls a0 true _ A3.out).mono ?_);rintro e w' ⟨rfl,⟨nd,rfl⟩⟩;refine⟨_,rfl,?_⟩) |((with_reducible refine Qjh (f:=217) rfl ?_);refine Qhf (some 10) rfl rfl Tryz.func217 qq_6 rfl #[.int .u32 a1] rfl qq_1 ?_;(with_reducible refine(Qak.calls a1 false _ A4.out).mono ?_);rintro e w' ⟨rfl,⟨nd,rfl⟩⟩;refine⟨_,rfl,?_⟩))
   go_ret
   exact⟨by first|rfl |(simp;done) |(simp[*];done),by repeat(first|exact Drawn0.refl _|apply Drawn0.step)⟩
 ·replace c5:=Bool.eq_false_iff.mpr c5;subst c5;rw[if_neg (show ¬(false=true)by decide)]at H
  by_cases c7:a=true
  ·subst c7;rw[if_pos rfl]at H;obtain rfl:=Option.some.inj H
   go_enter Tryz.func167,Tryz.ntmps167
   go_wp2_with (first |((with_reducible refine Qjh (f:=217) rfl ?_);refine Qhf (some 8) rfl rfl Tryz.func217 qq_6 rfl #[.int .u32 a0] rfl qq_1 ?_;(with_reducible refine(Qak.calls a0 false _ A3.out).mono ?_);rintro e w' ⟨rfl,⟨nd,rfl⟩⟩;refine⟨_,rfl,?_⟩) |((with_reducible refine Qjh (f:=217) rfl ?_);refine Qhf (some 10) rfl rfl Tryz.func217 qq_6 rfl #[.int .u32 a1] rfl qq_1 ?_;(with_reducible refine(Qak.calls a1 true _ A4.out).mono ?_);rintro e w' ⟨rfl,⟨nd,rfl⟩⟩;refine⟨_,rfl,?_⟩))
   go_ret
   exact⟨by first|rfl |(simp;done) |(simp[*];done),by repeat(first|exact Drawn0.refl _|apply Drawn0.step)⟩
  ·replace c7:=Bool.eq_false_iff.mpr c7;subst c7;rw[if_neg (show ¬(false=true)by decide)]at H
   by_cases c8:a0<a1
   ·rw[if_pos c8]at H;have g:=decide_eq_true c8;clear c8;obtain rfl:=Option.some.inj H
    go_enter Tryz.func167,Tryz.ntmps167
    go_wp2_with (first |((with_reducible refine Qjh (f:=217) rfl ?_);refine Qhf (some 8) rfl rfl Tryz.func217 qq_6 rfl #[.int .u32 a0] rfl qq_1 ?_;(with_reducible refine(Qak.calls a0 false _ A3.out).mono ?_);rintro e w' ⟨rfl,⟨nd,rfl⟩⟩;refine⟨_,rfl,?_⟩) |((with_reducible refine Qjh (f:=217) rfl ?_);refine Qhf (some 10) rfl rfl Tryz.func217 qq_6 rfl #[.int .u32 a1] rfl qq_1 ?_;(with_reducible refine(Qak.calls a1 false _ A4.out).mono ?_);rintro e w' ⟨rfl,⟨nd,rfl⟩⟩;refine⟨_,rfl,?_⟩))
    go_ret
    exact⟨by first|rfl |(simp;done) |(simp[*];done),by repeat(first|exact Drawn0.refl _|apply Drawn0.step)⟩
   ·rw[if_neg c8]at H;have g:=decide_eq_false c8;clear c8
    by_cases c9:a0 > a1
    ·rw[if_pos c9]at H;have j:decide (a1<a0)=true:=decide_eq_true c9;clear c9;obtain rfl:=Option.some.inj H
     go_enter Tryz.func167,Tryz.ntmps167
     go_wp2_with (first |((with_reducible refine Qjh (f:=217) rfl ?_);refine Qhf (some 8) rfl rfl Tryz.func217 qq_6 rfl #[.int .u32 a0] rfl qq_1 ?_;(with_reducible refine(Qak.calls a0 false _ A3.out).mono ?_);rintro e w' ⟨rfl,⟨nd,rfl⟩⟩;refine⟨_,rfl,?_⟩) |((with_reducible refine Qjh (f:=217) rfl ?_);refine Qhf (some 10) rfl rfl Tryz.func217 qq_6 rfl #[.int .u32 a1] rfl qq_1 ?_;(with_reducible refine(Qak.calls a1 false _ A4.out).mono ?_);rintro e w' ⟨rfl,⟨nd,rfl⟩⟩;refine⟨_,rfl,?_⟩))
     go_ret
     exact⟨by first|rfl |(simp;done) |(simp[*];done),by repeat(first|exact Drawn0.refl _|apply Drawn0.step)⟩
    ·rw[if_neg c9]at H;have j:decide (a1<a0)=false:=decide_eq_false c9;clear c9;obtain rfl:=Option.some.inj H
     go_enter Tryz.func167,Tryz.ntmps167
     go_wp2_with (first |((with_reducible refine Qjh (f:=217) rfl ?_);refine Qhf (some 8) rfl rfl Tryz.func217 qq_6 rfl #[.int .u32 a0] rfl qq_1 ?_;(with_reducible refine(Qak.calls a0 false _ A3.out).mono ?_);rintro e w' ⟨rfl,⟨nd,rfl⟩⟩;refine⟨_,rfl,?_⟩) |((with_reducible refine Qjh (f:=217) rfl ?_);refine Qhf (some 10) rfl rfl Tryz.func217 qq_6 rfl #[.int .u32 a1] rfl qq_1 ?_;(with_reducible refine(Qak.calls a1 false _ A4.out).mono ?_);rintro e w' ⟨rfl,⟨nd,rfl⟩⟩;refine⟨_,rfl,?_⟩))
     go_ret
     exact⟨by first|rfl |(simp;done) |(simp[*];done),by repeat(first|exact Drawn0.refl _|apply Drawn0.step)⟩
def Qal.f(a0:Int):Option (Bool):=some (a0 != a0)
theorem Qal.calls(a0:Int)(r:Bool)(w:World)(h:Qal.f a0=some r) :
  Calls Tryz.prog 216 #[.int .u64 a0] w fun e w'=>e=.returned (.bool r)∧Drawn0 w w':=by
 have H:(some (a0 != a0))=some r:=h;clear h;obtain rfl:=Option.some.inj H
 go_enter Tryz.func216,Tryz.ntmps216
 go_wp2;go_ret
 exact⟨by first|rfl |(simp;done) |(simp[*];done),by repeat(first|exact Drawn0.refl _|apply Drawn0.step)⟩
def Qai.f(a0:Int)(a1:Int):Option (Int):=(Qal.f a0).bind fun t270=>((Qal.f a1).bind fun t271=>(if t270=true then(if t271=true then(some 0)else(some (-1)))else(if t271=true then(some 1)else(if a0<a1 then(some (-1))else(if a0 > a1 then(some 1)else(some 0))))))
theorem Qai.calls(a0:Int)(a1:Int)(r:Int)(w:World)(h:Qai.f a0 a1=some r) :
  Calls Tryz.prog 166 #[.int .u64 a0,.int .u64 a1] w fun e w'=>e=.returned (.int .i64 r)∧Drawn0 w w':=by
 have H:((Qal.f a0).bind fun b=>((Qal.f a1).bind fun a=>(if b=true then(if a=true then(some 0)else(some (-1)))else(if a=true then(some 1)else(if a0<a1 then(some (-1))else(if a0 > a1 then(some 1)else(some 0)))))))=some r:=h;clear h;replace H:=Option.bind_eq_some_iff.mp H;obtain⟨b,c,H⟩:=H;have A3:=QA c;clear c;replace H:=Option.bind_eq_some_iff.mp H;obtain⟨a,d,H⟩:=H;have A4:=QA d;clear d
 by_cases c5:b=true
 ·subst c5;rw[if_pos rfl]at H
  by_cases c6:a=true
  ·subst c6;rw[if_pos rfl]at H;obtain rfl:=Option.some.inj H
   go_enter Tryz.func166,Tryz.ntmps166
   go_wp2_with (first |((with_reducible refine Qjh (f:=216) rfl ?_);refine Qhf (some 8) rfl rfl Tryz.func216 qq_6 rfl #[.int .u64 a0] rfl qq_1 ?_;(with_reducible refine(Qal.calls a0 true _ A3.out).mono ?_);rintro e w' ⟨rfl,⟨nd,rfl⟩⟩;refine⟨_,rfl,?_⟩) |((with_reducible refine Qjh (f:=216) rfl ?_);refine Qhf (some 10) rfl rfl Tryz.func216 qq_6 rfl #[.int .u64 a1] rfl qq_1 ?_;(with_reducible refine(Qal.calls a1 true _ A4.out).mono ?_);rintro e w' ⟨rfl,⟨nd,rfl⟩⟩;refine⟨_,rfl,?_⟩))
   go_ret
   exact⟨by first|rfl |(simp;done) |(simp[*];done),by repeat(first|exact Drawn0.refl _|apply Drawn0.step)⟩
  ·replace c6:=Bool.eq_false_iff.mpr c6;subst c6;rw[if_neg (show ¬(false=true)by decide)]at H;obtain rfl:=Option.some.inj H
   go_enter Tryz.func166,Tryz.ntmps166
   go_wp2_with (first |((with_reducible refine Qjh (f:=216) rfl ?_);refine Qhf (some 8) rfl rfl Tryz.func216 qq_6 rfl #[.int .u64 a0] rfl qq_1 ?_;(with_reducible refine(Qal.calls a0 true _ A3.out).mono ?_);rintro e w' ⟨rfl,⟨nd,rfl⟩⟩;refine⟨_,rfl,?_⟩) |((with_reducible refine Qjh (f:=216) rfl ?_);refine Qhf (some 10) rfl rfl Tryz.func216 qq_6 rfl #[.int .u64 a1] rfl qq_1 ?_;(with_reducible refine(Qal.calls a1 false _ A4.out).mono ?_);rintro e w' ⟨rfl,⟨nd,rfl⟩⟩;refine⟨_,rfl,?_⟩))
   go_ret
   exact⟨by first|rfl |(simp;done) |(simp[*];done),by repeat(first|exact Drawn0.refl _|apply Drawn0.step)⟩
 ·replace c5:=Bool.eq_false_iff.mpr c5;subst c5;rw[if_neg (show ¬(false=true)by decide)]at H
  by_cases c7:a=true
  ·subst c7;rw[if_pos rfl]at H;obtain rfl:=Option.some.inj H
   go_enter Tryz.func166,Tryz.ntmps166
   go_wp2_with (first |((with_reducible refine Qjh (f:=216) rfl ?_);refine Qhf (some 8) rfl rfl Tryz.func216 qq_6 rfl #[.int .u64 a0] rfl qq_1 ?_;(with_reducible refine(Qal.calls a0 false _ A3.out).mono ?_);rintro e w' ⟨rfl,⟨nd,rfl⟩⟩;refine⟨_,rfl,?_⟩) |((with_reducible refine Qjh (f:=216) rfl ?_);refine Qhf (some 10) rfl rfl Tryz.func216 qq_6 rfl #[.int .u64 a1] rfl qq_1 ?_;(with_reducible refine(Qal.calls a1 true _ A4.out).mono ?_);rintro e w' ⟨rfl,⟨nd,rfl⟩⟩;refine⟨_,rfl,?_⟩))
   go_ret
   exact⟨by first|rfl |(simp;done) |(simp[*];done),by repeat(first|exact Drawn0.refl _|apply Drawn0.step)⟩
  ·replace c7:=Bool.eq_false_iff.mpr c7;subst c7;rw[if_neg (show ¬(false=true)by decide)]at H
   by_cases c8:a0<a1
   ·rw[if_pos c8]at H;have g:=decide_eq_true c8;clear c8;obtain rfl:=Option.some.inj H
    go_enter Tryz.func166,Tryz.ntmps166
    go_wp2_with (first |((with_reducible refine Qjh (f:=216) rfl ?_);refine Qhf (some 8) rfl rfl Tryz.func216 qq_6 rfl #[.int .u64 a0] rfl qq_1 ?_;(with_reducible refine(Qal.calls a0 false _ A3.out).mono ?_);rintro e w' ⟨rfl,⟨nd,rfl⟩⟩;refine⟨_,rfl,?_⟩) |((with_reducible refine Qjh (f:=216) rfl ?_);refine Qhf (some 10) rfl rfl Tryz.func216 qq_6 rfl #[.int .u64 a1] rfl qq_1 ?_;(with_reducible refine(Qal.calls a1 false _ A4.out).mono ?_);rintro e w' ⟨rfl,⟨nd,rfl⟩⟩;refine⟨_,rfl,?_⟩))
    go_ret
    exact⟨by first|rfl |(simp;done) |(simp[*];done),by repeat(first|exact Drawn0.refl _|apply Drawn0.step)⟩
   ·rw[if_neg c8]at H;have g:=decide_eq_false c8;clear c8
    by_cases c9:a0 > a1
    ·rw[if_pos c9]at H;have j:decide (a1<a0)=true:=decide_eq_true c9;clear c9;obtain rfl:=Option.some.inj H
     go_enter Tryz.func166,Tryz.ntmps166
     go_wp2_with (first |((with_reducible refine Qjh (f:=216) rfl ?_);refine Qhf (some 8) rfl rfl Tryz.func216 qq_6 rfl #[.int .u64 a0] rfl qq_1 ?_;(with_reducible refine(Qal.calls a0 false _ A3.out).mono ?_);rintro e w' ⟨rfl,⟨nd,rfl⟩⟩;refine⟨_,rfl,?_⟩) |((with_reducible refine Qjh (f:=216) rfl ?_);refine Qhf (some 10) rfl rfl Tryz.func216 qq_6 rfl #[.int .u64 a1] rfl qq_1 ?_;(with_reducible refine(Qal.calls a1 false _ A4.out).mono ?_);rintro e w' ⟨rfl,⟨nd,rfl⟩⟩;refine⟨_,rfl,?_⟩))
     go_ret
     exact⟨by first|rfl |(simp;done) |(simp[*];done),by repeat(first|exact Drawn0.refl _|apply Drawn0.step)⟩
    ·rw[if_neg c9]at H;have j:decide (a1<a0)=false:=decide_eq_false c9;clear c9;obtain rfl:=Option.some.inj H
     go_enter Tryz.func166,Tryz.ntmps166
     go_wp2_with (first |((with_reducible refine Qjh (f:=216) rfl ?_);refine Qhf (some 8) rfl rfl Tryz.func216 qq_6 rfl #[.int .u64 a0] rfl qq_1 ?_;(with_reducible refine(Qal.calls a0 false _ A3.out).mono ?_);rintro e w' ⟨rfl,⟨nd,rfl⟩⟩;refine⟨_,rfl,?_⟩) |((with_reducible refine Qjh (f:=216) rfl ?_);refine Qhf (some 10) rfl rfl Tryz.func216 qq_6 rfl #[.int .u64 a1] rfl qq_1 ?_;(with_reducible refine(Qal.calls a1 false _ A4.out).mono ?_);rintro e w' ⟨rfl,⟨nd,rfl⟩⟩;refine⟨_,rfl,?_⟩))
     go_ret
     exact⟨by first|rfl |(simp;done) |(simp[*];done),by repeat(first|exact Drawn0.refl _|apply Drawn0.step)⟩
def Qde.f(k:Nat)(a0_0:Int)(a0_1:Int)(a1_0:Int)(a1_1:Int):Option (Int):=(Qai.f a0_0 a1_0).bind fun t276=>((Qah.f a0_1 a1_1).bind fun t277=>((Qaj.f k (([t276,t277]:List Int))).bind fun t281=>(some t281)))
def Qde.T1:Bool × List (List Nat × List Nat):=(true,[([],[]),([0],[0]),([],[]),([2],[2]),([1,3],[1,3]),([],[]),([5],[5]),([],[]),([7],[7]),([6,8,4],[6,8]),([4,9],[4,9]),([10,9],[10]),([11,11,0,1,2,3,4,5,6,7,8,9,10,11],[11])])
def Qde.B1:List Nat:=[0,1,0,4,15,0,32,0,128,511,1023,2047,4095]
theorem Qde.tab1:rtab .any (Qin Tryz.f116 1)=Qde.T1:=by kernel_rfl
theorem Qde.bits1:Qih Qde.T1.2 Qde.B1=true:=by kernel_rfl
theorem Qde.calls(k:Nat)(j:Int)(l:Int)(p:Int)(q:Int)(r:Int)(w:World)(h:Qde.f k j l p q=some r) :
  Calls Tryz.prog 116 #[.agg #[.int .u64 j,.int .u32 l],.agg #[.int .u64 p,.int .u32 q]] w fun e w'=>e=.returned (.int .i64 r)∧Below w.heap.size w w':=by
 have hu129:=Tryz.underlying129;have HB:=QA (Below.refl w.heap.size w);have H:((Qai.f j p).bind fun s=>((Qah.f l q).bind fun t=>((Qaj.f k (([s,t]:List Int))).bind fun v=>(some v))))=some r:=h;clear h;replace H:=Option.bind_eq_some_iff.mp H;obtain⟨s,D,H⟩:=H;have A3:=QA D;clear D;replace H:=Option.bind_eq_some_iff.mp H;obtain⟨t,E,H⟩:=H;have A4:=QA E;clear E;obtain⟨z,u⟩:∃y_:List Int,y_=(([s,t]:List Int)):=⟨_,rfl⟩;replace H:((Qaj.f k z).bind fun v=>(some v))=some r:=by first |(rw[u];with_reducible exact H) |(have B:=(Option.bind_some _ _).symm.trans H;rw[u];with_reducible exact B) |(have B:=(Option.bind_some _ _).symm.trans H;with_reducible exact B)|with_reducible exact H |(rw[u];exact H)|exact H
 have A:=QA u;clear u;replace H:=Option.bind_eq_some_iff.mp H;obtain⟨v,G,H⟩:=H;have A5:=QA G;clear G;obtain rfl:=Option.some.inj H
 go_enter Tryz.func116,Tryz.ntmps116
 try go_wp2_with (first |((with_reducible refine Qgj (N:=2) rfl ?_);refine qq_e 2 #[.int .u64 j,.int .u32 l] 129 ?_;intro c hg w6 hbox hb;have n_:=qn4 (Qfy qq_b hb) (hbox) (qq_s hg:w.heap.size≤c) (qq_s hg:w.heap.size≤c);clear HB;obtain⟨HB,a,L,O⟩:=n_;clear hb hbox hg) |((with_reducible refine Qgj (N:=3) rfl ?_);refine qq_e 3 #[.int .u64 p,.int .u32 q] 129 ?_;intro m hg w7 hbox hb;have n_:=qn7 (Qex (g:=c) (o:=.cells #[.int .u64 j,.int .u32 l] 129 (0,0)) qq_0 hb) (Qfy qq_b hb) (hbox) (qq_s hg:w.heap.size≤m) (qq_s hg:w.heap.size≤m) ((by rw[hg];exact Nat.ne_of_lt (Qeh (g:=c) (o:=.cells #[.int .u64 j,.int .u32 l] 129 (0,0)) qq_0):c≠m)) ((by rw[hg];exact Nat.ne_of_gt (Qeh (g:=c) (o:=.cells #[.int .u64 j,.int .u32 l] 129 (0,0)) qq_0):m≠c));clear a HB;obtain⟨a,HB,b,P,T,I,J⟩:=n_;clear hb hbox hg))
 have n_:=qn3 (Qev a.out) (Qev b.out) (Qgf HB.out);clear a b HB;obtain⟨a,b,HB⟩:=n_;refine Qgv (n:=13) (S:=fun w'=>w'.cell? ⟨c,0,none⟩=some (.int .u64 j)∧w'.cell? ⟨c,1,none⟩=some (.int .u32 l)∧w'.cell? ⟨m,0,none⟩=some (.int .u64 p)∧w'.cell? ⟨m,1,none⟩=some (.int .u32 q)) (ds:=[]) (bm 13 0) qq_6 rfl rfl ⟨(Qei a.out 0).trans rfl,(Qei a.out 1).trans rfl,(Qei b.out 0).trans rfl,(Qei b.out 1).trans rfl⟩ (fun d=>?_);refine Qil Qde.tab1 Qde.bits1 (fun HT_ HW_=>?_);generalize w7.drew=w8 at a b HB d ⊢;refine pz_ (i:=0) (N:=some 5) (bm 13 1) (Qid HT_.out qq_6) ?_;refine pz_ (i:=2) (N:=some 7) (bm 13 5) (Qid HT_.out qq_6) ?_;refine pz_ (i:=5) (N:=some 10) (bm 13 37) (Qid HT_.out qq_6) ?_;refine pz_ (i:=7) (N:=some 12) (bm 13 165) (Qid HT_.out qq_6) ?_;refine tz_ (i:=1) (N:=some 6) (bm 13 167) (Qik HT_.out HW_.out qq_6) d ?_;refine tz_ (i:=3) (N:=some 8) (bm 13 175) (Qik HT_.out HW_.out qq_6) d ?_;refine tz_ (i:=6) (N:=some 11) (bm 13 239) (Qik HT_.out HW_.out qq_6) d ?_;refine tz_ (i:=8) (N:=some 13) (bm 13 495) (Qik HT_.out HW_.out qq_6) d ?_;refine one_ (i:=4) (N:=some 9) (bm 13 511) rfl rfl (Qie HT_.out qq_6) (by decide) (fun K hK=>?_);refine Qhe Tryz.func166 qq_6 rfl #[.int .u64 j,.int .u64 p] (by rfl) rfl rfl qq_1 ?_;with_reducible refine(Qai.calls j p s _ A3.out).mono ?_
 rintro e w' ⟨rfl,⟨nd,rfl⟩⟩;refine⟨_,rfl,?_⟩;refine hK.out _ _ ⟨(Qei a.out 0).trans rfl,(Qei a.out 1).trans rfl,(Qei b.out 0).trans rfl,(Qei b.out 1).trans rfl⟩ (fun d=>?_);clear hK K;refine nzp_ 9 ?_;refine one_ (i:=9) (N:=some 14) (bm 13 1023) rfl rfl (Qie HT_.out qq_6) (by decide) (fun K hK=>?_);refine Qhe Tryz.func167 qq_6 rfl #[.int .u32 l,.int .u32 q] (by rfl) rfl rfl qq_1 ?_;with_reducible refine(Qah.calls l q t _ A4.out).mono ?_
 rintro e w' ⟨rfl,⟨nd,rfl⟩⟩;refine⟨_,rfl,?_⟩;refine hK.out _ _ ⟨(Qei a.out 0).trans rfl,(Qei a.out 1).trans rfl,(Qei b.out 0).trans rfl,(Qei b.out 1).trans rfl⟩ (fun d=>?_);clear hK K;refine nzp_ 14 ?_;refine one_ (i:=10) (N:=some 15) (bm 13 2047) rfl rfl (Qie HT_.out qq_6) (by decide) (fun K hK=>?_);refine Kd.R_lit_step (Kd.int .i64) _ 3 ?hg (N:=15) ?hd (xs:=([s,t]:List Int)) (inner:=[.int .i64 s,.int .i64 t]) (ok:=fun _=>True) (okp:=fun _=>True) ?hr ?hp (fun _ hk=>hk) trivial (Below.refl _ _) (Nat.le_refl _) (by simp) ?_;(case hd=>rfl);(case hg=>rfl);(case hr=>exact qq_20);(case hp=>exact(Reps.one (show Kd.M (Kd.int .i64) _ _ _ s [.int .i64 s] from rfl) (Reps.one (show Kd.M (Kd.int .i64) _ _ _ t [.int .i64 t] from rfl) (Reps.none _ _))));intro U w9 x hb hg_ hnew_;clear hg_ hnew_
 (first|rw[← A.out]at x |(simp only[Int.reduceToNat]at x;rw[← A.out]at x))
 have n_:=qn4 (Kd.R_lower x (Qfx qq_b)) (Qex (g:=c) (o:=.cells #[.int .u64 j,.int .u32 l] 129 (0,0)) qq_0 hb) (Qex (g:=m) (o:=.cells #[.int .u64 p,.int .u32 q] 129 (0,0)) qq_0 hb) (Qfy qq_b hb);clear a b HB;obtain⟨y,a,b,HB⟩:=n_;clear hb x;obtain⟨Ao11,co11,eo11⟩:=Kd.R_slice y.out
 (first|subst eo11 |(injection eo11 with f1_ f2_ f3_;have f4_:=f1_.symm;have f5_:=f3_.symm;clear f1_ f2_ f3_;subst f4_;subst f5_))
 refine hK.out _ _ ⟨(Qei a.out 0).trans rfl,(Qei a.out 1).trans rfl,(Qei b.out 0).trans rfl,(Qei b.out 1).trans rfl⟩ (fun d=>?_);clear hK K;refine nzp_ 15 ?_;refine one_ (i:=11) (N:=some 16) (bm 13 4095) rfl rfl (Qie HT_.out qq_6) (by decide) (fun K hK=>?_);refine Qhe Tryz.func165 qq_6 rfl #[.slice Ao11 z.length co11] (by rfl) rfl rfl qq_1 ?_;with_reducible refine(Qaj.calls k _ _ z v _ ?side1 ?side2 A5.out).mono ?_
 (case side1=>repeat(first|exact(Kd.R_reads' y.out).2.2 |(with_reducible refine Kd.C_alloc ?_ _) |(with_reducible refine Kd.C_drewN ?_ _) |(with_reducible refine Kd.C_drew ?_)))
 (case side2=>exact(Kd.R_reads' y.out).2.1)
 rintro e w' ⟨rfl,⟨nd,rfl⟩⟩;refine⟨_,rfl,?_⟩;refine hK.out _ _ ⟨(Qei a.out 0).trans rfl,(Qei a.out 1).trans rfl,(Qei b.out 0).trans rfl,(Qei b.out 1).trans rfl⟩ (fun d=>?_);clear hK K;refine nzp_ 16 ?_;refine pz_ (i:=12) (N:=some 4) (bm 13 8191) (Qid HT_.out qq_6) ?_;refine Qgz (Qig HT_.out qq_6) ?_
 try go_wp2
 go_ret
 exact⟨qq_5,qq_b⟩
def Qdf.l0:Nat→List (S129)→Int→Option (Bool)
 | 0,_,_=>none
 | k+1,x0,x3=>if x3<(x0.length:Int)then(if 0≤(wrap64 (x3-1))then(if(wrap64 (x3-1))<(x0.length:Int)then(if 0≤x3 then((Qde.f k ((Qkf x0 (wrap64 (x3-1))).f0) ((Qkf x0 (wrap64 (x3-1))).f1) ((Qkf x0 x3).f0) ((Qkf x0 x3).f1)).bind fun t286=>(if t286≥0 then(some false)else(Qdf.l0 k x0 (wrap64 (x3+1)))))else(none))else(none))else(none))else(some true)
def Qdf.f(k:Nat)(l0:List (S129)):Option (Bool):=Qdf.l0 k l0 1
def Qdf.T4:Bool × List (List Nat × List Nat):=(true,[([],[]),([],[]),([1],[1]),([0,2],[0,2]),([3],[3]),([],[]),([],[]),([5,6],[5,6]),([7],[7]),([4,8],[4,8]),([9],[9])])
def Qdf.B4:List Nat:=[0,0,2,7,15,0,0,96,224,511,1023]
theorem Qdf.tab4:rtab .any (Qin Tryz.f160 4)=Qdf.T4:=by kernel_rfl
theorem Qdf.bits4:Qih Qdf.T4.2 Qdf.B4=true:=by kernel_rfl
theorem Qdf.calls (k:Nat) (A0:Option Addr) (c0:Nat) (l0:List (S129)) (r:Bool) (w:World) (hr0:Kd.C k129 w A0 l0.length l0) (hc0:l0.length≤c0) (h:Qdf.f k l0=some r) :
  Calls Tryz.prog 160 #[.slice A0 l0.length c0] w fun e w'=>e=.returned (.bool r)∧Below w.heap.size w w':=by
 have hu129:=Tryz.underlying129;have z:=QA hr0;have L:=QA hc0;clear hr0 hc0;have HB:=QA (Below.refl w.heap.size w);have H:(Qdf.l0 k l0 1)=some r:=h;clear h;have H':=QA H;clear H
 go_enter Tryz.func160,Tryz.ntmps160
 go_wp2
 go_loopg [3] k (fun kq v3 w'=>∃(a:Int),v3=.int .i64 a∧Aside0 (Qdf.l0 kq l0 a=some r)∧Aside0 (kq≤k)∧Aside0 (Below w.heap.size w w'))
 case atStart=>exact⟨(1),qq_7,H',⟨Nat.le_refl _⟩,⟨qq_b⟩⟩
 case round =>
  clear H';obtain⟨a,rfl,HA,HK1,HB⟩:=hrel
  cases gk with
  | zero=>exact absurd HA.out (by simp[Qdf.l0])
  | succ k1 =>
   have H:=HA.out;clear HA;simp only[Qdf.l0]at H
   by_cases c2:a<(l0.length:Int)
   ·rw [if_pos c2]at H;have B:=decide_eq_true c2;clear c2;obtain⟨b,u⟩:∃j_:Int,(wrap64 (a-1))=j_:=⟨_,rfl⟩;replace H:(if 0≤(b)then(if(b)<(l0.length:Int)then(if 0≤a then((Qde.f k1 ((Qkf l0 (b)).f0) ((Qkf l0 (b)).f1) ((Qkf l0 a).f0) ((Qkf l0 a).f1)).bind fun o=>(if o≥0 then(some false)else(Qdf.l0 k1 l0 (wrap64 (a+1)))))else(none))else(none))else(none))=some r:=by first |(rw[u]at H;exact H) |(simp only[u]at H ⊢;exact H)
    have E:(IntKind.i64.wrap (a-1))=b:=(Qhh _).trans u
    by_cases c4:0≤(b)
    ·rw [if_pos c4]at H;have G:=decide_eq_true c4;clear c4
     by_cases c5:(b)<(l0.length:Int)
     ·rw[if_pos c5]at H;have I:=decide_eq_true c5;clear c5
      by_cases c6:0≤a
      ·rw[if_pos c6]at H;have J:=decide_eq_true c6;clear c6;replace H:=Option.bind_eq_some_iff.mp H;obtain⟨o,A,H⟩:=H;have A7:=QA A;clear A
       by_cases c8:o≥0
       ·rw[if_pos c8]at H;have D:decide (0≤o)=true:=decide_eq_true c8;clear c8;obtain rfl:=Option.some.inj H
        try go_wp2
        have n_:=qn1 (Qgf HB.out);clear HB;have HB:=n_;clear n_;have p:0≤((b):Int):=of_decide_eq_true qq_3;have q:(b)<(l0.length:Int):=of_decide_eq_true qq_3;obtain⟨c,x,d,g⟩:=Qkg z.out (b) p q;have hw284_1:=g;have hw284_0:=d
        cases x
        replace d:=qq_h HB.out d;replace g:=qq_h HB.out g;replace p:=eq_true p;replace q:=eq_true q;have s:0≤(a:Int):=of_decide_eq_true qq_3;have t:a<(l0.length:Int):=of_decide_eq_true qq_3;obtain⟨v,y,j,l⟩:=Qkg z.out a s t;have hw285_1:=l;have hw285_0:=j;obtain rfl:c=v:=(by injection y);replace j:=qq_h HB.out j;replace l:=qq_h HB.out l;replace s:=eq_true s;replace t:=eq_true t;refine Qgv (n:=11) (S:=fun w'=>w'.cell? (c.add (((b)).toNat*2))=some (.int .u64 ((Qkf l0 (b)).f0))∧w'.cell? ⟨(c.add (((b)).toNat*2)).block,(c.add (((b)).toNat*2)).off+1,none⟩=some (.int .u32 ((Qkf l0 (b)).f1))∧w'.cell? (c.add ((a).toNat*2))=some (.int .u64 ((Qkf l0 a).f0))∧w'.cell? ⟨(c.add ((a).toNat*2)).block,(c.add ((a).toNat*2)).off+1,none⟩=some (.int .u32 ((Qkf l0 a).f1))) (ds:=[]) (bm 11 0) qq_6 rfl rfl ⟨((HB.out.cell (World.block_lt_of_cell? w _ hw284_0)).trans hw284_0),((HB.out.cell (World.block_lt_of_cell? w _ hw284_1)).trans hw284_1),((HB.out.cell (World.block_lt_of_cell? w _ hw285_0)).trans hw285_0),((HB.out.cell (World.block_lt_of_cell? w _ hw285_1)).trans hw285_1)⟩ (fun m=>?_);refine Qil Qdf.tab4 Qdf.bits4 (fun HT_ HW_=>?_);generalize wr.drew=w9 at HB d g j l m ⊢;refine pz_ (i:=0) (N:=some 10) (bm 11 1) (Qid HT_.out qq_6) ?_;refine pz_ (i:=1) (N:=some 11) (bm 11 3) (Qid HT_.out qq_6) ?_;refine pz_ (i:=2) (N:=some 12) (bm 11 7) (Qid HT_.out qq_6) ?_;refine pz_ (i:=3) (N:=some 13) (bm 11 15) (Qid HT_.out qq_6) ?_;refine pz_ (i:=5) (N:=some 15) (bm 11 47) (Qid HT_.out qq_6) ?_;refine pz_ (i:=6) (N:=some 16) (bm 11 111) (Qid HT_.out qq_6) ?_;refine pz_ (i:=7) (N:=some 17) (bm 11 239) (Qid HT_.out qq_6) ?_;refine tz_ (i:=4) (N:=some 14) (bm 11 255) (Qik HT_.out HW_.out qq_6) m ?_;refine tz_ (i:=8) (N:=some 18) (bm 11 511) (Qik HT_.out HW_.out qq_6) m ?_;refine one_ (i:=9) (N:=some 19) (bm 11 1023) rfl rfl (Qie HT_.out qq_6) (by decide) (fun K hK=>?_);refine Qhe Tryz.func116 qq_6 rfl #[.agg #[.int .u64 ((Qkf l0 (b)).f0),.int .u32 ((Qkf l0 (b)).f1)],.agg #[.int .u64 ((Qkf l0 a).f0),.int .u32 ((Qkf l0 a).f1)]] (by rfl) rfl rfl (by(try simp only[List.map_toArray,List.map_cons,List.map_nil]);first|done |(simp only[u];rfl)|rfl |(simp only[List.length_drop,List.length_take];rfl)) ?_;with_reducible refine(Qde.calls k1 ((Qkf l0 (b)).f0) ((Qkf l0 (b)).f1) ((Qkf l0 a).f0) ((Qkf l0 a).f1) o _ A7.out).mono ?_
        rintro e M ⟨rfl,hb⟩;refine⟨_,rfl,?_⟩;have n_:=qn1 (Qfy qq_b hb);clear HB;have HB:=n_;clear n_
        (try clear hb)
        (try clear hb2)
        (try clear hk)
        (try clear hi)
        refine hK.out _ _ ⟨((HB.out.cell (World.block_lt_of_cell? w _ hw284_0)).trans hw284_0),((HB.out.cell (World.block_lt_of_cell? w _ hw284_1)).trans hw284_1),((HB.out.cell (World.block_lt_of_cell? w _ hw285_0)).trans hw285_0),((HB.out.cell (World.block_lt_of_cell? w _ hw285_1)).trans hw285_1)⟩ (fun m=>?_);clear hK K;refine nzp_ 19 ?_;refine pz_ (i:=10) (N:=some 20) (bm 11 2047) (Qid HT_.out qq_6) ?_;refine Qgz (Qig HT_.out qq_6) ?_
        try go_wp2
        go_ret
        exact⟨by first|rfl |(simp[Qjm,Qjn]<;>rfl) |(simp only[← u];first|rfl |(simp[Qjm,Qjn]<;>rfl)) |(simp[*,Qjm,Qjn]<;>rfl),qq_b⟩
       ·rw[if_neg c8]at H;have D:decide (0≤o)=false:=decide_eq_false c8;clear c8;have H':=QA H;clear H
        try go_wp2
        have n_:=qn1 (Qgf HB.out);clear HB;have HB:=n_;clear n_;have p:0≤((b):Int):=of_decide_eq_true qq_3;have q:(b)<(l0.length:Int):=of_decide_eq_true qq_3;obtain⟨c,x,d,g⟩:=Qkg z.out (b) p q;have hw284_1:=g;have hw284_0:=d
        cases x
        replace d:=qq_h HB.out d;replace g:=qq_h HB.out g;replace p:=eq_true p;replace q:=eq_true q;have s:0≤(a:Int):=of_decide_eq_true qq_3;have t:a<(l0.length:Int):=of_decide_eq_true qq_3;obtain⟨v,y,j,l⟩:=Qkg z.out a s t;have hw285_1:=l;have hw285_0:=j;obtain rfl:c=v:=(by injection y);replace j:=qq_h HB.out j;replace l:=qq_h HB.out l;replace s:=eq_true s;replace t:=eq_true t;refine Qgv (n:=11) (S:=fun w'=>w'.cell? (c.add (((b)).toNat*2))=some (.int .u64 ((Qkf l0 (b)).f0))∧w'.cell? ⟨(c.add (((b)).toNat*2)).block,(c.add (((b)).toNat*2)).off+1,none⟩=some (.int .u32 ((Qkf l0 (b)).f1))∧w'.cell? (c.add ((a).toNat*2))=some (.int .u64 ((Qkf l0 a).f0))∧w'.cell? ⟨(c.add ((a).toNat*2)).block,(c.add ((a).toNat*2)).off+1,none⟩=some (.int .u32 ((Qkf l0 a).f1))) (ds:=[]) (bm 11 0) qq_6 rfl rfl ⟨((HB.out.cell (World.block_lt_of_cell? w _ hw284_0)).trans hw284_0),((HB.out.cell (World.block_lt_of_cell? w _ hw284_1)).trans hw284_1),((HB.out.cell (World.block_lt_of_cell? w _ hw285_0)).trans hw285_0),((HB.out.cell (World.block_lt_of_cell? w _ hw285_1)).trans hw285_1)⟩ (fun m=>?_);refine Qil Qdf.tab4 Qdf.bits4 (fun HT_ HW_=>?_);generalize wr.drew=w11 at HB d g j l m ⊢;refine pz_ (i:=0) (N:=some 10) (bm 11 1) (Qid HT_.out qq_6) ?_;refine pz_ (i:=1) (N:=some 11) (bm 11 3) (Qid HT_.out qq_6) ?_;refine pz_ (i:=2) (N:=some 12) (bm 11 7) (Qid HT_.out qq_6) ?_;refine pz_ (i:=3) (N:=some 13) (bm 11 15) (Qid HT_.out qq_6) ?_;refine pz_ (i:=5) (N:=some 15) (bm 11 47) (Qid HT_.out qq_6) ?_;refine pz_ (i:=6) (N:=some 16) (bm 11 111) (Qid HT_.out qq_6) ?_;refine pz_ (i:=7) (N:=some 17) (bm 11 239) (Qid HT_.out qq_6) ?_;refine tz_ (i:=4) (N:=some 14) (bm 11 255) (Qik HT_.out HW_.out qq_6) m ?_;refine tz_ (i:=8) (N:=some 18) (bm 11 511) (Qik HT_.out HW_.out qq_6) m ?_;refine one_ (i:=9) (N:=some 19) (bm 11 1023) rfl rfl (Qie HT_.out qq_6) (by decide) (fun K hK=>?_);refine Qhe Tryz.func116 qq_6 rfl #[.agg #[.int .u64 ((Qkf l0 (b)).f0),.int .u32 ((Qkf l0 (b)).f1)],.agg #[.int .u64 ((Qkf l0 a).f0),.int .u32 ((Qkf l0 a).f1)]] (by rfl) rfl rfl (by(try simp only[List.map_toArray,List.map_cons,List.map_nil]);first|done |(simp only[u];rfl)|rfl |(simp only[List.length_drop,List.length_take];rfl)) ?_;with_reducible refine(Qde.calls k1 ((Qkf l0 (b)).f0) ((Qkf l0 (b)).f1) ((Qkf l0 a).f0) ((Qkf l0 a).f1) o _ A7.out).mono ?_
        rintro e O ⟨rfl,hb⟩;refine⟨_,rfl,?_⟩;have n_:=qn1 (Qfy qq_b hb);clear HB;have HB:=n_;clear n_
        (try clear hb)
        (try clear hb2)
        (try clear hk)
        (try clear hi)
        refine hK.out _ _ ⟨((HB.out.cell (World.block_lt_of_cell? w _ hw284_0)).trans hw284_0),((HB.out.cell (World.block_lt_of_cell? w _ hw284_1)).trans hw284_1),((HB.out.cell (World.block_lt_of_cell? w _ hw285_0)).trans hw285_0),((HB.out.cell (World.block_lt_of_cell? w _ hw285_1)).trans hw285_1)⟩ (fun m=>?_);clear hK K;refine nzp_ 19 ?_;refine pz_ (i:=10) (N:=some 20) (bm 11 2047) (Qid HT_.out qq_6) ?_;refine Qgz (Qig HT_.out qq_6) ?_
        try go_wp2
        go_roundg k1
        case measure=>have:=HK1.out;omega
        case rel=>exact⟨(wrap64 (a+1)),qq_7,H',⟨by have:=HK1.out;omega⟩,⟨qq_b⟩⟩
      ·rw[if_neg c6]at H;exact absurd H (by simp)
     ·rw[if_neg c5]at H;exact absurd H (by simp)
    ·rw[if_neg c4]at H;exact absurd H (by simp)
   ·rw[if_neg c2]at H;have B:=decide_eq_false c2;clear c2;obtain rfl:=Option.some.inj H;go_wp2;go_ret
    exact⟨qq_5,qq_b⟩
theorem eqA129(d:Nat)(w:World)(x0 y0:Int)(x1 y1:Int) :
  (Op.equalIn (d+2) 129 (.agg #[.int .u64 x0,.int .u32 x1]) (.agg #[.int .u64 y0,.int .u32 y1])).run Tryz.prog w=.ok (x0 == y0 && (x1 == y1)) w:=by
 refine Qix Tryz.underlying129 qq_6 ?_;refine Qiw (by rfl) (by go_simp;rfl) (by go_simp;rfl) (by go_simp) ?_;exact Qiv (by rfl) (by go_simp;rfl) (by go_simp;rfl) (by go_simp)
def Qaf.f(l0:List Int)(l1:List Int):Option (Bool):=some ((strOfNums l0).toList == (strOfNums l1).toList)
theorem Qaf.calls(A0:Option Addr)(c0:Nat)(l0:List Int)(A1:Option Addr)(c1:Nat)(l1:List Int)(r:Bool)(w:World)(hr0:Kd.C (Kd.int .u8) w A0 l0.length l0)(hc0:l0.length≤c0)(hr1:Kd.C (Kd.int .u8) w A1 l1.length l1)(hc1:l1.length≤c1)(h:Qaf.f l0 l1=some r) :
  Calls Tryz.prog 96 #[.slice A0 l0.length c0,.slice A1 l1.length c1] w fun e w'=>e=.returned (.bool r)∧Drawn0 w w':=by
 have HR0:=QA hr0;have HC0:=QA hc0;clear hr0 hc0;have HR1:=QA hr1;have HC1:=QA hc1;clear hr1 hc1;have H:(some ((strOfNums l0).toList == (strOfNums l1).toList))=some r:=h;clear h;obtain rfl:=Option.some.inj H;have hcv3:=Kd.C_string (P:=Tryz.prog) (A:=A0) (c:=c0) Tryz.underlying40 Tryz.underlying5 Tryz.underlying9 HR0.out;have hcv4:=Kd.C_string (P:=Tryz.prog) (A:=A1) (c:=c1) Tryz.underlying40 Tryz.underlying5 Tryz.underlying9 HR1.out
 go_enter Tryz.func96,Tryz.ntmps96
 go_wp2;go_ret
 exact⟨by first|rfl |(simp;done) |(simp[*];done),by repeat(first|exact Drawn0.refl _|apply Drawn0.step)⟩
def Qbs.f(a0_0:Int)(a0_1:Int):Option (Bool):=if a0_0≥12 then(if a0_0≤24 then(if a0_1≥1 then(some (decide (a0_1≤65536)))else(some false))else(some false))else(some false)
theorem Qbs.calls(c:Int)(d:Int)(r:Bool)(w:World)(h:Qbs.f c d=some r) :
  Calls Tryz.prog 87 #[.agg #[.int .u8 c,.int .u32 d]] w fun e w'=>e=.returned (.bool r)∧Below w.heap.size w w':=by
 have hu28:=Tryz.underlying28;have HB:=QA (Below.refl w.heap.size w);have H:(if c≥12 then(if c≤24 then(if d≥1 then(some (decide (d≤65536)))else(some false))else(some false))else(some false))=some r:=h;clear h
 by_cases c2:c≥12
 ·rw[if_pos c2]at H;have k:decide (12≤c)=true:=decide_eq_true c2;clear c2
  by_cases c3:c≤24
  ·rw[if_pos c3]at H;have l:=decide_eq_true c3;clear c3
   by_cases c4:d≥1
   ·rw[if_pos c4]at H;have m:decide (1≤d)=true:=decide_eq_true c4;clear c4;obtain rfl:=Option.some.inj H
    go_enter Tryz.func87,Tryz.ntmps87
    go_wp2_with (first |((with_reducible refine Qgj (N:=1) rfl ?_);refine qq_e 1 #[.int .u8 c,.int .u32 d] 28 ?_;intro a hg w5 hbox hb;have n_:=qn4 (Qfy qq_b hb) (hbox) (qq_s hg:w.heap.size≤a) (qq_s hg:w.heap.size≤a);clear HB;obtain⟨HB,b,g,j⟩:=n_;clear hb hbox hg;obtain⟨s,t⟩:=qc2 b.out;have z:=Qej b.out))
    go_ret
    exact⟨qq_5,qq_b⟩
   ·rw[if_neg c4]at H;have m:decide (1≤d)=false:=decide_eq_false c4;clear c4;obtain rfl:=Option.some.inj H
    go_enter Tryz.func87,Tryz.ntmps87
    go_wp2_with (first |((with_reducible refine Qgj (N:=1) rfl ?_);refine qq_e 1 #[.int .u8 c,.int .u32 d] 28 ?_;intro a hg w7 hbox hb;have n_:=qn4 (Qfy qq_b hb) (hbox) (qq_s hg:w.heap.size≤a) (qq_s hg:w.heap.size≤a);clear HB;obtain⟨HB,b,g,j⟩:=n_;clear hb hbox hg;obtain⟨u,v⟩:=qc2 b.out;have A:=Qej b.out))
    go_ret
    exact⟨qq_5,qq_b⟩
  ·rw[if_neg c3]at H;have l:=decide_eq_false c3;clear c3;obtain rfl:=Option.some.inj H
   go_enter Tryz.func87,Tryz.ntmps87
   go_wp2_with (first |((with_reducible refine Qgj (N:=1) rfl ?_);refine qq_e 1 #[.int .u8 c,.int .u32 d] 28 ?_;intro a hg w9 hbox hb;have n_:=qn4 (Qfy qq_b hb) (hbox) (qq_s hg:w.heap.size≤a) (qq_s hg:w.heap.size≤a);clear HB;obtain⟨HB,b,g,j⟩:=n_;clear hb hbox hg;obtain⟨n,o⟩:=qc2 b.out;have x:=Qej b.out))
   go_ret
   exact⟨qq_5,qq_b⟩
 ·rw[if_neg c2]at H;have k:decide (12≤c)=false:=decide_eq_false c2;clear c2;obtain rfl:=Option.some.inj H
  go_enter Tryz.func87,Tryz.ntmps87
  go_wp2_with (first |((with_reducible refine Qgj (N:=1) rfl ?_);refine qq_e 1 #[.int .u8 c,.int .u32 d] 28 ?_;intro a hg B hbox hb;have n_:=qn4 (Qfy qq_b hb) (hbox) (qq_s hg:w.heap.size≤a) (qq_s hg:w.heap.size≤a);clear HB;obtain⟨HB,b,g,j⟩:=n_;clear hb hbox hg;obtain⟨p,q⟩:=qc2 b.out;have y:=Qej b.out))
  go_ret
  exact⟨qq_5,qq_b⟩
end Go.Proofs.YteaocbonofboeaaGreat.C
end
