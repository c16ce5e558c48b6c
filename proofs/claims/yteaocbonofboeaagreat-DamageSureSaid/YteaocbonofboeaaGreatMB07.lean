/- Merged texts. -/
import Derived.Test.YteaocbonofboeaaGreatMB02
import Derived.Test.YteaocbonofboeaaGreatMB06
import Derived.Lib.SliceRun
import Derived.Shelf.Bytes.SlIndexAt
import Derived.StillTailTactics
import Derived.Test.YteaocbonofboeaaGreatMB03
set_option linter.unusedVariables false
set_option linter.unusedSimpArgs false
set_option maxHeartbeats 8000000
set_option maxRecDepth 100000
section
namespace Go.Proofs.YteaocbonofboeaaGreat.C
open Go.RowKit Go.Proofs.YteaocbonofboeaaGreatW.PrintWords Go.Proofs.YteaocbonofboeaaGreatW.PrintLast Go.Proofs.YteaocbonofboeaaGreatW.PrintMore
attribute [local go_sem] Qim Qin Qio Qip Qiq Qir Qis Qit
mutual
def Qbs.j0:Nat→List (S160)→Int→Int→Bool→Option (Bool)
 | 0,_,_,_,_=>none
 | k+1,x0,x1,x3,x17=>if x17=true then(some false)else(if x1≥0 then(Qbs.j1 k x0 x3 (decide (x3≥x1)))else(Qbs.j1 k x0 x3 false))
def Qbs.j1:Nat→List (S160)→Int→Bool→Option (Bool)
 | 0,_,_,_=>none
 | k+1,x0,x3,x24=>if x24=true then(some true)else(Qbs.l0 k x3 x0 (x0.length:Int) 0)
def Qbs.l0:Nat→Int→List (S160)→Int→Int→Option (Bool)
 | 0,_,_,_,_=>none
 | k+1,x3,x25,x26,x27=>if x27<x26 then(if 0≤x27 then(if x27<(x25.length:Int)then(if((Qkc x25 x27).f0)=(IntKind.u64.wrap (x3))then(some true)else(Qbs.l0 k x3 x25 x26 (wrap64 (x27+1))))else(none))else(none))else(some false)
end
def Qbs.f(k:Nat)(l0:List (S160))(a1:Int)(a2:Int)(a3:Int):Option (Bool):=if a3<0 then(Qbs.j0 k l0 a1 a3 true)else(Qbs.j0 k l0 a1 a3 (decide (a3≥a2)))
theorem Qbs.calls (k:Nat) (A0:Option Addr) (c0:Nat) (l0:List (S160)) (a1:Int) (a2:Int) (a3:Int) (r:Bool) (w:World) (hr0:Kd.C k160 w A0 l0.length l0) (hc0:l0.length≤c0) (h:Qbs.f k l0 a1 a2 a3=some r) :
  Calls Tryz.prog 42 #[.slice A0 l0.length c0,.int .i64 a1,.int .i64 a2,.int .i64 a3] w fun e w'=>e=.returned (.bool r)∧Below w.heap.size w w':=by
 have hu160:=Tryz.underlying160;have I:=QA hr0;have Z:=QA hc0;clear hr0 hc0;have HB:=QA (Below.refl w.heap.size w);have H:(if a3<0 then(Qbs.j0 k l0 a1 a3 true)else(Qbs.j0 k l0 a1 a3 (decide (a3≥a2))))=some r:=h;clear h;have x:=QA H;clear H
 go_enter Tryz.func42,Tryz.ntmps42
 go_upto_region 1 with(fail)
 go_cut [17] (fun O wc=>∃(kq:Nat) (o:Bool),O=.bool o∧Aside0 (Qbs.j0 kq l0 a1 a3 o=some r)∧Aside0 (kq≤k)∧Aside0 (Below w.heap.size w wc))
 case first =>
  have H:=x.out;clear x
  by_cases c6:a3<0
  ·rw[if_pos c6]at H;have d:=decide_eq_true c6;clear c6
   (first|rw[d] |(simp only[Qgu,Qgv];rw[d])|skip)
   have H':=QA H;clear H;go_wp2
   go_meet
   case rel=>exact⟨_,(true),qq_4,H',⟨by first|omega|exact Nat.le_refl _⟩,⟨qq_b⟩⟩
  ·rw[if_neg c6]at H;have d:=decide_eq_false c6;clear c6
   (first|rw[d] |(simp only[Qgu,Qgv];rw[d])|skip)
   have H':=QA H;clear H;go_wp2
   go_meet
   case rel=>exact⟨_,(decide (a3≥a2)),qq_4,H',⟨by first|omega|exact Nat.le_refl _⟩,⟨qq_b⟩⟩
 case rest =>
  clear x
  try clear c6
  try clear d
  obtain⟨kq,o,rfl,HA,HJ4,HB⟩:=hcut
  cases kq with
  | zero=>exact absurd HA.out (by simp[Qbs.j0])
  | succ kj4 =>
   have H:=HA.out;clear HA;simp only[Qbs.j0]at H
   by_cases c7:o=true
   ·subst c7;rw[if_pos rfl]at H;obtain rfl:=Option.some.inj H;go_wp2;go_ret
    exact⟨qq_3,qq_b⟩
   ·replace c7:=Bool.eq_false_iff.mpr c7;subst c7;rw[if_neg (show ¬(false=true)by decide)]at H;have y:=QA H;clear H
    go_upto_region 3 with(fail)
    go_cut [24] (fun P wc=>∃(kq:Nat) (p:Bool),P=.bool p∧Aside0 (Qbs.j1 kq l0 a3 p=some r)∧Aside0 (kq≤kj4)∧Aside0 (Below w.heap.size w wc))
    case first =>
     have H:=y.out;clear y
     by_cases c9:a1≥0
     ·rw[if_pos c9]at H;have g:decide (0≤a1)=true:=decide_eq_true c9;clear c9
      (first|rw[g] |(simp only[Qgu,Qgv];rw[g])|skip)
      have H':=QA H;clear H;go_wp2
      go_meet
      case rel=>exact⟨_,(decide (a3≥a1)),qq_4,H',⟨by have:=HJ4.out;first|omega|exact Nat.le_refl _⟩,⟨qq_b⟩⟩
     ·rw[if_neg c9]at H;have g:decide (0≤a1)=false:=decide_eq_false c9;clear c9
      (first|rw[g] |(simp only[Qgu,Qgv];rw[g])|skip)
      have H':=QA H;clear H;go_wp2
      go_meet
      case rel=>exact⟨_,(false),qq_4,H',⟨by have:=HJ4.out;first|omega|exact Nat.le_refl _⟩,⟨qq_b⟩⟩
    case rest =>
     clear y
     try clear c6
     try clear d
     try clear c7
     try clear c9
     try clear g
     obtain⟨kq,p,rfl,HA,HJ7,HB⟩:=hcut
     cases kq with
     | zero=>exact absurd HA.out (by simp[Qbs.j1])
     | succ kj7 =>
      have H:=HA.out;clear HA;simp only[Qbs.j1]at H
      by_cases c10:p=true
      ·subst c10;rw[if_pos rfl]at H;obtain rfl:=Option.some.inj H;go_wp2;go_ret
       exact⟨qq_3,qq_b⟩
      ·replace c10:=Bool.eq_false_iff.mpr c10;subst c10;rw[if_neg (show ¬(false=true)by decide)]at H;have H':=QA H;clear H;go_wp2
       go_loopg [27] kj7 (fun kq T w'=>∃(a:Int),T=.int .i64 a∧Aside0 (Qbs.l0 kq a3 l0 (l0.length:Int) a=some r)∧Aside0 (kq≤kj7)∧Aside0 (Below w.heap.size w w'))
       case atStart=>exact⟨(0),qq_4,H',⟨Nat.le_refl _⟩,⟨qq_b⟩⟩
       case round =>
        clear H'
        try clear c6
        try clear d
        try clear c7
        try clear c9
        try clear g
        try clear c10
        obtain⟨a,rfl,HA,HK3,HB⟩:=hrel
        cases gk with
        | zero=>exact absurd HA.out (by simp[Qbs.l0])
        | succ k3 =>
         have H:=HA.out;clear HA;simp only[Qbs.l0]at H
         by_cases s:a<(l0.length:Int)
         ·rw [if_pos s]at H;have z:=decide_eq_true s;clear s
          by_cases u:0≤a
          ·rw[if_pos u]at H;have U:=decide_eq_true u;clear u
           by_cases v:a<(l0.length:Int)
           ·rw[if_pos v]at H;have W:=decide_eq_true v;clear v
            by_cases q:((Qkc l0 a).f0)=(IntKind.u64.wrap (a3))
            ·rw[if_pos q]at H;have A:(((Qkc l0 a).f0) == (IntKind.u64.wrap (a3)))=true:=beq_iff_eq.mpr q;have B:(((Qkc l0 a).f0) != (IntKind.u64.wrap (a3)))=false:=bne_eq_false_iff_eq.mpr q;clear q;obtain rfl:=Option.some.inj H;have j:0≤(a:Int):=of_decide_eq_true qq_2;have l:a<(l0.length:Int):=of_decide_eq_true qq_2;obtain⟨D,t,b,c⟩:=Qkd I.out a j l
             cases t
             replace b:=qq_h HB.out b;replace c:=qq_h HB.out c;replace j:=eq_true j;replace l:=eq_true l
             go_wp2_with (first |((with_reducible refine Qfx (N:=10) rfl ?_);refine qq_e 10 #[.int .u64 0,.int .u8 0] 160 ?_;intro m hg aa hbox hb;have n_:=qn4 (Qfn qq_b hb) (hbox) (qq_s hg:w.heap.size≤m) (qq_s hg:w.heap.size≤m);clear HB;obtain⟨HB,n,E,G⟩:=n_;clear hb hbox hg;obtain⟨J,K⟩:=qc2 n.out;have X:=Qdx n.out))
             go_ret
             exact⟨qq_3,qq_b⟩
            ·rw[if_neg q]at H;have A:(((Qkc l0 a).f0) == (IntKind.u64.wrap (a3)))=false:=beq_eq_false_iff_ne.mpr q;have B:(((Qkc l0 a).f0) != (IntKind.u64.wrap (a3)))=true:=bne_iff_ne.mpr q;have H':=QA H;clear H;have j:0≤(a:Int):=of_decide_eq_true qq_2;have l:a<(l0.length:Int):=of_decide_eq_true qq_2;obtain⟨D,t,b,c⟩:=Qkd I.out a j l
             cases t
             replace b:=qq_h HB.out b;replace c:=qq_h HB.out c;replace j:=eq_true j;replace l:=eq_true l
             go_wp2_with (first |((with_reducible refine Qfx (N:=10) rfl ?_);refine qq_e 10 #[.int .u64 0,.int .u8 0] 160 ?_;intro m hg ab hbox hb;have n_:=qn4 (Qfn qq_b hb) (hbox) (qq_s hg:w.heap.size≤m) (qq_s hg:w.heap.size≤m);clear HB;obtain⟨HB,n,E,G⟩:=n_;clear hb hbox hg;obtain⟨L,M⟩:=qc2 n.out;have Y:=Qdx n.out))
             go_roundg k3
             case measure=>have:=HJ4.out;have:=HJ7.out;have:=HK3.out;omega
             case rel=>exact⟨(wrap64 (a+1)),qq_4,H',⟨by have:=HJ4.out;have:=HJ7.out;have:=HK3.out;omega⟩,⟨qq_b⟩⟩
           ·rw[if_neg v]at H;exact absurd H (by simp)
          ·rw[if_neg u]at H;exact absurd H (by simp)
         ·rw[if_neg s]at H;have z:=decide_eq_false s;clear s;obtain rfl:=Option.some.inj H;go_wp2;go_ret
          exact⟨qq_3,qq_b⟩
def Qcq.l0:Nat→List (S37)→List (S74)→Int→Int→Option ((List (S37)))
 | 0,_,_,_,_=>none
 | k+1,x3,x6,x7,x8=>if x8<x7 then(if 0≤x8 then(if x8<(x6.length:Int)then(if x3.length<2932031007402 then(Qcq.l0 k (x3++[(⟨(Qjk x6 x8).f0.f0,(Qjk x6 x8).f0.f1,(Qjk x6 x8).f0.f2,(Qjk x6 x8).f0.f3⟩:S37)]) x6 x7 (wrap64 (x8+1)))else(none))else(none))else(none))else(some x3)
def Qcq.f(k:Nat)(l0:List (S74)):Option ((List (S37))):=Qcq.l0 k ([]:List (S37)) l0 (l0.length:Int) 0
theorem Qcq.calls(k:Nat)(A0:Option Addr)(c0:Nat)(l0:List (S74))(r:List (S37))(w:World)(hr0:Kd.C k74 w A0 l0.length l0)(hc0:l0.length≤c0)(h:Qcq.f k l0=some r) :
  Calls Tryz.prog 36 #[.slice A0 l0.length c0] w fun e w'=>∃G:Value,e=.returned (G)∧Kd.R k37 37 w' w.heap.size (fun _=>True) G r∧Below w.heap.size w w':=by
 have hu74:=Tryz.underlying74;have hu37:=Tryz.underlying37;have L:=QA hr0;have af:=QA hc0;clear hr0 hc0;have HB:=QA (Below.refl w.heap.size w);have H:(Qcq.l0 k ([]:List (S37)) l0 (l0.length:Int) 0)=some r:=h;clear h;have H':=QA H;clear H
 go_enter Tryz.func36,Tryz.ntmps36
 go_wp2
 go_loopg [3,8] k (fun kq v3 v8 w'=>∃(l:List (S37)) (a:Int),v8=.int .i64 a∧Aside0 (Qcq.l0 kq l l0 (l0.length:Int) a=some r)∧Aside0 (kq≤k)∧Aside0 (Kd.R k37 37 w' w.heap.size (fun _=>True) v3 l)∧Aside0 (Below w.heap.size w w'))
 case atStart=>exact⟨(([]:List (S37))),(0),qq_4,H',⟨Nat.le_refl _⟩,⟨by first|exact Kd.R_nil _ _ _ _ _|exact Kd.N_nil _ _ _ _ _|exact Kd.V_nil _ _ _ _ _|exact Kd.Q_nil _ _ _ _ _|exact Kd.S_nil _ _ _ _ _⟩,⟨qq_b⟩⟩
 case round =>
  clear H';obtain⟨l,a,rfl,HA,HK1,m,HB⟩:=hrel
  cases gk with
  | zero=>exact absurd HA.out (by simp[Qcq.l0])
  | succ k1 =>
   have H:=HA.out;clear HA;simp only[Qcq.l0]at H
   by_cases c2:a<(l0.length:Int)
   ·rw [if_pos c2]at H;have I:=decide_eq_true c2;clear c2
    by_cases c3:0≤a
    ·rw[if_pos c3]at H;have ab:=decide_eq_true c3;clear c3
     by_cases c4:a<(l0.length:Int)
     ·rw[if_pos c4]at H;have ac:=decide_eq_true c4;clear c4
      by_cases c5:l.length<2932031007402
      ·rw[if_pos c5]at H;have J:=QA c5;clear c5;obtain⟨A,j⟩:∃y_:List (S37),y_=(l++[(⟨(Qjk l0 a).f0.f0,(Qjk l0 a).f0.f1,(Qjk l0 a).f0.f2,(Qjk l0 a).f0.f3⟩:S37)]):=⟨_,rfl⟩;replace H:(Qcq.l0 k1 A l0 (l0.length:Int) (wrap64 (a+1)))=some r:=by first |(rw[j];with_reducible exact H) |(have B:=(Option.bind_some _ _).symm.trans H;rw[j];with_reducible exact B) |(have B:=(Option.bind_some _ _).symm.trans H;with_reducible exact B)|with_reducible exact H |(rw[j];exact H)|exact H
       have D:=QA j;clear j;have H':=QA H;clear H;have y:0≤(a:Int):=of_decide_eq_true qq_2;have z:a<(l0.length:Int):=of_decide_eq_true qq_2;obtain⟨Y,K,n,q,s,t,u,v,x⟩:=Qjl L.out a y z
       cases K
       replace n:=qq_h HB.out n;replace q:=qq_h HB.out q;replace s:=qq_h HB.out s;replace t:=qq_h HB.out t;replace u:=qq_h HB.out u;replace v:=qq_h HB.out v;replace x:=qq_h HB.out x;replace y:=eq_true y;replace z:=eq_true z
       go_wp2_with (first |((with_reducible refine Qfx (N:=5) rfl ?_);refine qq_e 5 #[.bool false,.int .u64 0,.string (⟨#[]⟩:ByteArray),.string (⟨#[]⟩:ByteArray),.int .u64 0,.int .i64 0,.int .i64 0] 74 ?_;intro c hg w6 hbox hb;have n_:=qn5 (Kd.R_below qq_7 hb) (Qfn qq_b hb) (hbox) (qq_s hg:w.heap.size≤c) (qq_s hg:w.heap.size≤c);clear m HB;obtain⟨m,HB,d,Z,aa⟩:=n_;clear hb hbox hg;obtain⟨M,O,P,T,U,W,X⟩:=qc7 d.out;have ad:=Qdx d.out) |((with_reducible refine Qiv (b:=.append) (xs:=#[.tmp 12,.tmp 15]) rfl ?_);at_builtin;refine Kd.R_append k37 (w0:=w) w.heap.size rfl (.tmp 12) (.tmp 15) 22 37 (.agg #[(.bool false),(.int .u64 0),(.string ⟨#[]⟩),(.string ⟨#[]⟩)]) 48 rfl Tryz.underlying22 Qjd rfl (by decide) (by omega) u3 l (⟨(Qjk l0 a).f0.f0,(Qjk l0 a).f0.f1,(Qjk l0 a).f0.f2,(Qjk l0 a).f0.f3⟩:S37) [.bool ((Qjk l0 a).f0.f0),.int .u64 ((Qjk l0 a).f0.f1),.string ((Qjk l0 a).f0.f2),.string ((Qjk l0 a).f0.f3)] (fun _=>True) (fun _=>False) rfl qq_21 ?aP (fun _ hk=>hk.elim) ?aF ?aO ?aB ?aS ?aL ?_;(case aP=>exact Qjg _ _ _ (⟨(Qjk l0 a).f0.f0,(Qjk l0 a).f0.f1,(Qjk l0 a).f0.f2,(Qjk l0 a).f0.f3⟩:S37));(case aB=>exact qq_b);(case aF=>exact(fun _ _=>trivial));(case aO=>exact(by(with_reducible repeat(first|apply Kd.R_alloc|apply Kd.R_drewN|apply Kd.R_drew));exact Kd.R_mono (Kd.R_far (p:=⟨c,6,none⟩) (Kd.R_far (p:=⟨c,5,none⟩) (Kd.R_far (p:=⟨c,4,none⟩) (Kd.R_far (p:=⟨c,3,none⟩) (Kd.R_far (p:=⟨c,2,none⟩) (Kd.R_far (p:=⟨c,1,none⟩) (Kd.R_far (p:=⟨c,0,none⟩) (Kd.R_types m.out d.out (by decide)) (fun _ hk=>hk.2) (.bool ((Qjk l0 a).f0.f0))) (fun _ hk=>hk.2) (.int .u64 ((Qjk l0 a).f0.f1))) (fun _ hk=>hk.2) (.string ((Qjk l0 a).f0.f2))) (fun _ hk=>hk.2) (.string ((Qjk l0 a).f0.f3))) (fun _ hk=>hk.2) (.int .u64 ((Qjk l0 a).f1))) (fun _ hk=>hk.2) (.int .i64 ((Qjk l0 a).f2))) (fun _ hk=>hk.2) (.int .i64 ((Qjk l0 a).f3))) (fun _ hk=>trivial)));(case aS=>exact(Qfm qq_b));(case aL=>have:=J.out;omega);intro ae w8 ho hb hg hat;rw[← D.out]at ho;have n_:=qn3 (Qdy (g:=c) (o:=.cells #[.bool ((Qjk l0 a).f0.f0),.int .u64 ((Qjk l0 a).f0.f1),.string ((Qjk l0 a).f0.f2),.string ((Qjk l0 a).f0.f3),.int .u64 ((Qjk l0 a).f1),.int .i64 ((Qjk l0 a).f2),.int .i64 ((Qjk l0 a).f3)] 74 (0,0)) qq_x hg (Kd.R_ne m.out d.out (by decide))) (hb) (ho);clear d HB m;obtain⟨d,HB,E⟩:=n_;clear ho hb hg hat))
       go_roundg k1
       case measure=>have:=HK1.out;omega
       case rel=>exact⟨(A),(wrap64 (a+1)),qq_4,H',⟨by have:=HK1.out;omega⟩,⟨by(with_reducible repeat(first|apply Kd.R_alloc|apply Kd.R_drewN|apply Kd.R_drew));exact E.out⟩,⟨qq_b⟩⟩
      ·rw[if_neg c5]at H;exact absurd H (by simp)
     ·rw[if_neg c4]at H;exact absurd H (by simp)
    ·rw[if_neg c3]at H;exact absurd H (by simp)
   ·rw[if_neg c2]at H;have I:=decide_eq_false c2;clear c2;obtain rfl:=Option.some.inj H;go_wp2;go_ret
    exact⟨_,by first|rfl |(simp[Qiz,Qja]<;>rfl) |(simp[*,Qiz,Qja]<;>rfl),by(with_reducible repeat(first|apply Kd.R_alloc|apply Kd.R_drewN|apply Kd.R_drew));exact m.out,qq_b⟩
end Go.Proofs.YteaocbonofboeaaGreat.C
end
section
namespace Go.Proofs.YteaocbonofboeaaGreat.C
open Go.RowKit Go.Proofs.YteaocbonofboeaaGreatW.PrintWords Go.Proofs.YteaocbonofboeaaGreatW.PrintLast Go.Proofs.YteaocbonofboeaaGreatW.PrintMore
abbrev R8(W:World)(b:Nat)(v:Value)(xs:List Int):Prop:=Kd.R (Kd.int .u8) 5 W b (fun _=>True) v xs
def IsBuf(W:World)(b g:Nat)(xs:List Int):Prop:=∃v,W.heap[g]? = some (.cells #[v] 184 (0,0))∧R8 W b v xs
def leb:Int→Nat→List Int
 | _,0=>[]
 | x,n+1=>x%256 :: leb (x/256) n
theorem Qke:∀(n:Nat) (x:Int),(leb x n).length=n
 | 0,_=>rfl
 | n+1,x=>by simp[leb,Qke n]
theorem R8.lit(W:World)(b:Nat)(hb:b≤W.heap.size)(xs:List Int)(hm:xs.length≤9223372036854775807):R8 (W.alloc (.cells (nums .u8 xs).toArray 5)) b (.slice (some ⟨W.heap.size,0,none⟩) xs.length xs.length) xs :=
 Kd.R_of_own (own_lit W b 5 .u8 xs hb hm) (fun _ _=>trivial)
theorem R8.clean{W:World}{b g t:Nat}{v:Value}{xs:List Int}{cs:Array Value}(h:R8 W b v xs)(hg:W.heap[g]? = some (.cells cs t (0,0)))(ht:5≠t):some g≠v.ownBlock:=Kd.R_ne h hg ht
theorem R8.set{W:World}{b g t:Nat}{v:Value}{xs:List Int}{cs:Array Value}(h:R8 W b v xs)(hg:W.heap[g]? = some (.cells cs t (0,0)))(ht:5≠t)(j:Nat)(u:Value):R8 (W.setCell ⟨g,j,none⟩ u) b v xs :=
 Kd.R_set h hg (by intro q hq;rcases List.mem_cons.1 hq with rfl|hq;exact ht;cases hq) j u
theorem R8.kept{W W':World}{b:Nat}{v:Value}{xs:List Int}(h:R8 W b v xs)(hb:Below W.heap.size W W'):R8 W' b v xs:=Kd.R_below h hb
theorem R8.low{W:World}{b b':Nat}{v:Value}{xs:List Int}(h:R8 W b v xs)(hb:b'≤b):R8 W b' v xs:=Kd.R_lower h hb
theorem R8.shape{W:World}{b:Nat}{v:Value}{xs:List Int}(h:R8 W b v xs):∃A n c,v=.slice A n c:=by
 obtain⟨A,c,e⟩:=Kd.R_slice h;exact⟨A,_,c,e⟩
theorem IsBuf.kept{W W':World}{b g:Nat}{xs:List Int}(h:IsBuf W b g xs)(hb:Below W.heap.size W W'):IsBuf W' b g xs:=by
 obtain⟨v,h1,h2⟩:=h;exact⟨v,Qel h1 hb,h2.kept hb⟩
theorem IsBuf.lt{W:World}{b g:Nat}{xs:List Int}(h:IsBuf W b g xs):g<W.heap.size:=by
 obtain⟨v,h1,h2⟩:=h;exact Qdv h1
theorem IsBuf.put{W w1:World}{b g:Nat}{v v1:Value}{xs ys:List Int}(hv:W.heap[g]? = some (.cells #[v] 184 (0,0)))(hR:R8 W b v xs)(hg:W.grownBy w1 v.ownBlock)(h1:R8 w1 b v1 ys) :
  w1.heap[g]? = some (.cells #[v] 184 (0,0))∧IsBuf (w1.setCell ⟨g,0,none⟩ v1) b g ys:=by
 have hv1:=Qdy hv hg (hR.clean hv (by decide));exact⟨hv1,v1,Qdt hv1 0 v1,h1.set hv1 (by decide) 0 v1⟩
theorem Qkf{b:Nat}{w W:World}{g j:Nat}{v:Value}(h:Below b w W)(hg:b≤g):Below b w (W.setCell ⟨g,j,none⟩ v):=h.setCell hg _
theorem Qkg{b b':Nat}{w W:World}(h:Below b w W)(hb:b'≤b):Below b' w W:=⟨h.os,h.tape,h.output,h.size,fun i hi=>h.block i (by omega)⟩
def Tk(g:Nat)(w w':World):Prop:=∀k cs t,w.heap[k]? = some (.cells cs t (0,0))→t≠5→k≠g→w'.heap[k]? = some (.cells cs t (0,0))
def Bw(b g:Nat)(w w':World):Prop:=Below b w w'∧Tk g w w'
theorem Tk.refl(g:Nat)(w:World):Tk g w w:=fun _ _ _ h _ _=>h
theorem Tk.trans{g:Nat}{a b c:World}(h:Tk g a b)(k:Tk g b c):Tk g a c:=fun _ _ _ h1 h2 h3=>k _ _ _ (h _ _ _ h1 h2 h3) h2 h3
theorem Tk.below{g:Nat}{w w':World}(h:Below w.heap.size w w'):Tk g w w':=fun _ _ _ h1 _ _=>Qel h1 h
theorem Bw.refl(b g:Nat)(w:World):Bw b g w w:=⟨Below.refl _ _,Tk.refl _ _⟩
theorem Bw.trans{b g:Nat}{x y z:World}(h:Bw b g x y)(k:Bw b g y z):Bw b g x z:=⟨h.1.trans k.1,h.2.trans k.2⟩
theorem Bw.below{b g:Nat}{w w':World}(h:Below w.heap.size w w')(hb:b≤w.heap.size):Bw b g w w':=⟨Qkg h hb,Tk.below h⟩
theorem Bw.size{b g:Nat}{w w':World}(h:Bw b g w w'):w.heap.size≤w'.heap.size:=h.1.size
theorem Bw.put{W w1:World}{b g:Nat}{v v1:Value}{xs:List Int}(hbg:b≤g)(hv:W.heap[g]? = some (.cells #[v] 184 (0,0)))(hR:R8 W b v xs)(hb:Below b W w1)(hg:W.grownBy w1 v.ownBlock):Bw b g W (w1.setCell ⟨g,0,none⟩ v1):=by
 refine⟨Qkf hb hbg,fun k cs t h1 h2 h3=>?_⟩;have hne:some k≠v.ownBlock:=Kd.R_ne hR h1 (fun e=>h2 e.symm);have h4:=Qdy h1 hg hne;exact Qdu h4 h3 v1
def Qae.f(l0:List Int):Option (List Int):=if l0.length≤140737488355328 then some l0 else none
theorem Qkh(A0:Option Addr)(c0:Nat)(l0:List Int)(w:World)(hr0:Kd.C (Kd.int .u8) w A0 l0.length l0)(hl:l0.length≤140737488355328) :
  Calls Tryz.prog 72 #[.slice A0 l0.length c0] w fun e w'=>∃b:Value,e=.returned (b)∧R8 w' w.heap.size b l0∧Below w.heap.size w w':=by
 have hu:=Tryz.underlying40;have g:∀(w:World) (a:Option Addr) (n c n' c':Nat),(binOp .eql 40 (.slice a n c) (.slice none n' c')).run Tryz.prog w=.ok (.bool a.isNone) w:=fun w a n c n' c'=>Lib.run_eql_slice_nil w _ _ a n c n' c' hu
 cases A0 with
 | none =>
  obtain rfl:l0=[]:=by
   cases l0 with
   | nil=>rfl
   | cons a t=>obtain⟨ad,c,h1,_⟩:=Kd.C_get hr0 0 0 (by omega) (by simp);cases h1
  go_enter Tryz.func72,Tryz.ntmps72
  go_wp2;go_ret
  exact⟨_,rfl,Kd.R_nil _ _ _ _ _,Below.refl _ _⟩
 | some ad =>
  go_enter Tryz.func72,Tryz.ntmps72
  go_wp2_with (first |(at_builtin;refine Kd.R_append_row (Value.int .u8) (0:Int) (h1:=fun _=>rfl) (w0:=w) w.heap.size rfl (.tmp 5) (.tmp 6) 40 5 (.int .u8 0) 1 rfl Tryz.underlying40 Qjb rfl (by decide) _ [] l0 (some ad) l0.length c0 (fun _=>True) rfl rfl (fun _ _=>trivial) ?hO ?hR ?hB ?hS ?hL ?_;(case hO=>exact R8.lit w w.heap.size (Nat.le_refl _) [] (by simp));(case hR=>exact Kd.C_below hr0 (Qcx (Below.refl _ _) _));(case hB=>exact Qcx (Below.refl _ _) _);(case hS=>simp);(case hL=>simp;omega);intro v1 w1 d hb1 h hat1;simp only[List.nil_append]at d))
  go_ret
  exact⟨_,rfl,d,hb1⟩
theorem Qae.calls(A0:Option Addr)(c0:Nat)(l0:List Int)(r:List Int)(w:World)(hr0:Kd.C (Kd.int .u8) w A0 l0.length l0)(hc0:l0.length≤c0)(h:Qae.f l0=some r) :
  Calls Tryz.prog 72 #[.slice A0 l0.length c0] w fun e w'=>∃v0_:Value,e=.returned (v0_)∧Kd.R (Kd.int .u8) 5 w' w.heap.size (fun _=>True) v0_ r∧Below w.heap.size w w':=by
 unfold Qae.f at h;have hl:l0.length≤140737488355328:=by
  by_cases e:l0.length≤140737488355328
  ·exact e
  ·rw[if_neg e]at h;cases h
 rw[if_pos hl]at h
 cases h
 exact Qkh A0 c0 l0 w hr0 hl
def Ow(g:Nat)(w w':World):Prop:=∀(k:Nat) (o:Obj) (v:Value),w.heap[g]? = some (.cells #[v] 184 (0,0))→w.heap[k]? = some o→k≠g→some k≠v.ownBlock →
 w'.heap[k]? = some o∧∃v',w'.heap[g]? = some (.cells #[v'] 184 (0,0))∧some k≠v'.ownBlock
theorem Ow.refl(g:Nat)(w:World):Ow g w w:=fun k o v h1 h2 _ h4=>⟨h2,v,h1,h4⟩
theorem Ow.trans{g:Nat}{a b c:World}(h:Ow g a b)(h':Ow g b c):Ow g a c:=fun k o v h1 h2 h3 h4=>by
 obtain⟨h5,v',h6,h7⟩:=h k o v h1 h2 h3 h4;exact h' k o v' h6 h5 h3 h7
theorem Ow.put{W w1:World}{g:Nat}{v v1:Value}(hv:W.heap[g]? = some (.cells #[v] 184 (0,0)))(hg:W.grownBy w1 v.ownBlock)(hv1:w1.heap[g]? = some (.cells #[v] 184 (0,0)))(hat:v1.ownBlock=v.ownBlock∨∃b,v1.ownBlock=some b∧W.heap.size≤b):Ow g W (w1.setCell ⟨g,0,none⟩ v1):=by
 intro k o v0 h1 h2 h3 h4;rw[hv]at h1;obtain rfl:v=v0:=by
  have:=Option.some.inj h1
  injection this with h
  injection h with h
  injection h
 refine⟨(Below.heap_setCell w1 ⟨g,0,none⟩ v1 k h3).trans (Qdy h2 hg h4),v1,Qdt hv1 0 v1,?_⟩
 rcases hat with h |⟨b,h,hb⟩
 ·rw[h];exact h4
 ·rw[h];intro e;have:=Qdv h2;have e2:=Option.some.inj e;omega
theorem Qki(b g:Nat)(x:Int)(n:Nat)(xs:List Int)(w:World)(d:0≤x)(h:x<18446744073709551616)(hbg:b≤g)(hbw:b≤w.heap.size)(hI:IsBuf w b g xs)(hl:xs.length+n≤140737488355328) :
  Calls Tryz.prog 148 #[.pointer (some ⟨g,0,none⟩),.int .u64 x,.int .i64 n] w fun e w'=>e=.returned (.pointer (some ⟨g,0,none⟩))∧IsBuf w' b g (xs++leb x n)∧Bw b g w w'∧Ow g w w':=by
 have HI:=QA hI;clear hI
 go_enter Tryz.func148,Tryz.ntmps148
 go_wp2
 go_loopw [1,8] (fun v1 v8 wr=>∃(k:Nat) (ys:List Int) (iv xv:Int),k≤n∧ys.length=k∧v8=.int .i64 iv∧v1=.int .u64 xv∧0≤xv∧xv<18446744073709551616∧Aside0 (iv=(k:Int))∧Aside0 (leb x n=ys++leb xv (n-k))∧Aside0 (IsBuf wr b g (xs++ys))∧Aside0 (Bw b g w wr)∧Aside0 (Ow g w wr))
  (fun _ v8 _=>n-(intOf v8).toNat)
 case atStart=>exact⟨0,[],0,x,Nat.zero_le _,rfl,rfl,rfl,d,h,⟨rfl⟩,⟨rfl⟩,⟨by simpa using HI.out⟩,⟨Bw.refl _ _ _⟩,⟨Ow.refl _ _⟩⟩
 case round =>
  obtain⟨k,ys,iv,xv,hk,hys,rfl,rfl,m,o,HK,HL,HB,HW,HO⟩:=hrel
  by_cases hlt:k<n
  ·have hlt2:iv<(n:Int):=by have:=HK.out;omega
   have hge:0≤iv:=by have:=HK.out;omega
   obtain⟨v,hv,hR⟩:=HB.out;have hc:wr.cell? ⟨g,0,none⟩=some v:=(Qdw hv 0).trans rfl;have HV:=QA hv;have HR:=QA hR;clear hv hR
   go_wp2_with ((at_builtin;refine Kd.R_append (Kd.int .u8) (w0:=wr) b rfl (.tmp 14) (.tmp 17) 40 5 (.int .u8 0) 1 rfl Tryz.underlying40 Qjb rfl (by decide) (by omega) v (xs++ys) (xv%256) [.int .u8 (xv%256)] (fun _=>True) (fun _=>False) rfl ?ax ?aP (fun _ hk=>hk.elim) ?aF ?aO ?aB ?aS ?aL ?_;(case ax=>rfl);(case aP=>rfl);(case aF=>exact fun _ _=>trivial);(case aO=>exact HR.out);(case aB=>exact Below.refl _ _);(case aS=>exact Nat.le_trans hbw HW.out.size);(case aL=>simp;omega);intro v1 w1 c hb1 a hat1;obtain⟨A1,n1,c1,rfl⟩:=R8.shape c;obtain⟨hv1,hI1⟩:=IsBuf.put HV.out HR.out a c;have hfz:=Qdx hv1 0;have hc1:w1.cell? ⟨g,0,none⟩=some v:=(Qdw hv1 0).trans rfl;have HI1:=QA hI1;have j:=QA (HO.out.trans (Ow.put (v1:=.slice A1 n1 c1) HV.out a hv1 hat1));have l:=QA (HW.out.trans (Bw.put (v1:=.slice A1 n1 c1) hbg HV.out HR.out hb1 a));clear hI1 hb1 a hat1 c hv1))
   go_roundw
   case rel=>exact⟨k+1,ys++[xv%256],iv+1,xv/256,by omega,by simp[hys],by go_num,by go_num,by omega,by omega,⟨by have:=HK.out;omega⟩,⟨by
    rw[HL.out,show n-k=(n-(k+1))+1 by omega,leb];simp⟩,⟨by rw[← List.append_assoc];exact HI1.out⟩,⟨l.out⟩,⟨j.out⟩⟩
   case measure=>simp[intOf];omega
  ·obtain rfl:k=n:=by omega
   have e1:iv=(k:Int):=HK.out;subst e1;go_wp2;go_ret
   refine⟨rfl,?_,HW.out,HO.out⟩;have e:=HL.out;rw[Nat.sub_self]at e;rw[e]
   simpa [leb]using HB.out
theorem Qkj(b g:Nat)(x:Int)(n:Nat)(xs:List Int)(w:World)(hx0:0≤x)(hx1:x<18446744073709551616)(hbg:b≤g)(hbw:b≤w.heap.size)(hI:IsBuf w b g xs)(hl:xs.length+n≤140737488355328) :
  Calls Tryz.prog 148 #[.pointer (some ⟨g,0,none⟩),.int .u64 x,.int .i64 n] w fun e w'=>e=.returned (.pointer (some ⟨g,0,none⟩))∧IsBuf w' b g (xs++leb x n)∧Bw b g w w':=(Qki b g x n xs w hx0 hx1 hbg hbw hI hl).mono (by rintro e w' ⟨h1,h2,h3,_⟩;exact⟨h1,h2,h3⟩)
theorem Qkk(b g:Nat)(x:Int)(xs:List Int)(w:World)(hx0:0≤x)(hx1:x<256)(hbg:b≤g)(hbw:b≤w.heap.size)(hI:IsBuf w b g xs)(hl:xs.length+1≤140737488355328) :
  Calls Tryz.prog 101 #[.pointer (some ⟨g,0,none⟩),.int .u8 x] w fun e w'=>e=.returned (.pointer (some ⟨g,0,none⟩))∧IsBuf w' b g (xs++[x])∧Bw b g w w':=by
 go_enter Tryz.func101,Tryz.ntmps101
 go_wp2_with (go_at_call 148;refine(Qkj b g x 1 xs w hx0 (by omega) hbg hbw hI hl).mono ?_;rintro e w' ⟨rfl,hd,hb⟩)
 go_ret
 refine⟨rfl,?_,hb⟩;have e:leb x 1=[x]:=by simp[leb];omega
 rw[e]at hd;exact hd
theorem Qkl(b g:Nat)(x:Int)(xs:List Int)(w:World)(hx0:0≤x)(hx1:x<4294967296)(hbg:b≤g)(hbw:b≤w.heap.size)(hI:IsBuf w b g xs)(hl:xs.length+4≤140737488355328) :
  Calls Tryz.prog 110 #[.pointer (some ⟨g,0,none⟩),.int .u32 x] w fun e w'=>e=.returned (.pointer (some ⟨g,0,none⟩))∧IsBuf w' b g (xs++leb x 4)∧Bw b g w w'∧Ow g w w':=by
 go_enter Tryz.func110,Tryz.ntmps110
 go_wp2_with (go_at_call 148;refine(Qki b g x 4 xs w hx0 (by omega) hbg hbw hI hl).mono ?_;rintro e w' ⟨rfl,hd,hb,ho⟩)
 go_ret
 exact⟨rfl,hd,hb,ho⟩
theorem Qkm(b g:Nat)(x:Int)(xs:List Int)(w:World)(hx0:0≤x)(hx1:x<4294967296)(hbg:b≤g)(hbw:b≤w.heap.size)(hI:IsBuf w b g xs)(hl:xs.length+4≤140737488355328) :
  Calls Tryz.prog 110 #[.pointer (some ⟨g,0,none⟩),.int .u32 x] w fun e w'=>e=.returned (.pointer (some ⟨g,0,none⟩))∧IsBuf w' b g (xs++leb x 4)∧Bw b g w w':=(Qkl b g x xs w hx0 hx1 hbg hbw hI hl).mono (by rintro e w' ⟨h1,h2,h3,_⟩;exact⟨h1,h2,h3⟩)
theorem Qkn(b g:Nat)(x:Int)(xs:List Int)(w:World)(hx0:0≤x)(hx1:x<18446744073709551616)(hbg:b≤g)(hbw:b≤w.heap.size)(hI:IsBuf w b g xs)(hl:xs.length+8≤140737488355328) :
  Calls Tryz.prog 150 #[.pointer (some ⟨g,0,none⟩),.int .u64 x] w fun e w'=>e=.returned (.pointer (some ⟨g,0,none⟩))∧IsBuf w' b g (xs++leb x 8)∧Bw b g w w':=by
 go_enter Tryz.func150,Tryz.ntmps150
 go_wp2_with (go_at_call 148;refine(Qkj b g x 8 xs w hx0 hx1 hbg hbw hI hl).mono ?_;rintro e w' ⟨rfl,hd,hb⟩)
 go_ret
 exact⟨rfl,hd,hb⟩
theorem Qko(b g:Nat)(A0:Option Addr)(c0:Nat)(ys:List Int)(xs:List Int)(w:World)(hr0:Kd.C (Kd.int .u8) w A0 ys.length ys)(hbg:b≤g)(hbw:b≤w.heap.size)(hI:IsBuf w b g xs)(hl:xs.length+ys.length≤140737488355328) :
  Calls Tryz.prog 149 #[.pointer (some ⟨g,0,none⟩),.slice A0 ys.length c0] w fun e w'=>e=.returned (.pointer (some ⟨g,0,none⟩))∧IsBuf w' b g (xs++ys)∧Bw b g w w'∧Ow g w w':=by
 obtain⟨v,hv,hR⟩:=hI;have hc:w.cell? ⟨g,0,none⟩=some v:=(Qdw hv 0).trans rfl
 go_enter Tryz.func149,Tryz.ntmps149
 go_wp2_with (first |(at_builtin;refine Kd.R_append_row (Value.int .u8) (0:Int) (h1:=fun _=>rfl) (w0:=w) b rfl (.tmp 9) (.tmp 10) 40 5 (.int .u8 0) 1 rfl Tryz.underlying40 Qjb rfl (by decide) v xs ys A0 ys.length c0 (fun _=>True) rfl rfl (fun _ _=>trivial) ?hO ?hR ?hB ?hS ?hL ?_;(case hO=>exact hR);(case hR=>exact hr0);(case hB=>exact Below.refl _ _);(case hS=>exact hbw);(case hL=>omega);intro v1 w1 HR1 hb1 hg1 hat1;obtain⟨A1,n1,c1,rfl⟩:=R8.shape HR1;obtain⟨hv1,hI1⟩:=IsBuf.put hv hR hg1 HR1;have hfz:=Qdx hv1 0;have hc1:w1.cell? ⟨g,0,none⟩=some v:=(Qdw hv1 0).trans rfl;have HI1:=QA hI1;have HO1:=QA (Ow.put (v1:=.slice A1 n1 c1) hv hg1 hv1 hat1);have HB1:=QA (Bw.put (v1:=.slice A1 n1 c1) hbg hv hR hb1 hg1);clear hI1 hb1 hg1 hat1 HR1 hv1))
 go_ret
 exact⟨rfl,HI1.out,HB1.out,HO1.out⟩
theorem Qkp(b g:Nat)(A0:Option Addr)(c0:Nat)(ys:List Int)(xs:List Int)(w:World)(hr0:Kd.C (Kd.int .u8) w A0 ys.length ys)(hbg:b≤g)(hbw:b≤w.heap.size)(hI:IsBuf w b g xs)(hl:xs.length+ys.length≤140737488355328) :
  Calls Tryz.prog 149 #[.pointer (some ⟨g,0,none⟩),.slice A0 ys.length c0] w fun e w'=>e=.returned (.pointer (some ⟨g,0,none⟩))∧IsBuf w' b g (xs++ys)∧Bw b g w w':=(Qko b g A0 c0 ys xs w hr0 hbg hbw hI hl).mono (by rintro e w' ⟨h1,h2,h3,_⟩;exact⟨h1,h2,h3⟩)
theorem Qkq(b g:Nat)(A0:Option Addr)(c0 n:Nat)(ys:List Int)(xs:List Int)(w:World)(hn:n=ys.length)(hr0:Kd.C (Kd.int .u8) w A0 n ys)(hbg:b≤g)(hbw:b≤w.heap.size)(hI:IsBuf w b g xs)(hl:xs.length+n≤140737488355328) :
  Calls Tryz.prog 149 #[.pointer (some ⟨g,0,none⟩),.slice A0 n c0] w fun e w'=>e=.returned (.pointer (some ⟨g,0,none⟩))∧IsBuf w' b g (xs++ys)∧Bw b g w w':=by
 subst hn;exact Qkp b g A0 c0 ys xs w hr0 hbg hbw hI hl
theorem Qkr(b g:Nat)(xs:List Int)(w:World)(hI:IsBuf w b g xs)(hl:xs.length≤140737488355328) :
  Calls Tryz.prog 104 #[.pointer (some ⟨g,0,none⟩)] w fun e w'=>∃v:Value,e=.returned v∧R8 w' w.heap.size v xs∧Below w.heap.size w w':=by
 obtain⟨v,hv,hR⟩:=hI;obtain⟨A,c,rfl,hlc,hC⟩:=Kd.R_reads hR;have hc:w.cell? ⟨g,0,none⟩=some (.slice A xs.length c):=(Qdw hv 0).trans rfl
 go_enter Tryz.func104,Tryz.ntmps104
 go_wp2_with (go_at_call 72;refine(Qkh A c xs w hC hl).mono ?_;rintro e w' ⟨v1,rfl,hd,hb⟩)
 go_ret
 exact⟨_,rfl,hd,hb⟩
def ixOf(l:List Int)(c:Int):Int:=Lib.indexByte (Lib.bytesOf l) c.toNat.toUInt8
def Qag.f(l0:List Int)(a1:Int):Option Int:=some (ixOf l0 a1)
theorem Qag.calls(A0:Option Addr)(c0:Nat)(l0:List Int)(a1:Int)(r:Int)(w:World)(hr0:Kd.C (Kd.int .u8) w A0 l0.length l0)(hc0:l0.length≤c0)(h:Qag.f l0 a1=some r) :
  Calls Tryz.prog 68 #[.slice A0 l0.length c0,.int .u8 a1] w fun e w'=>e=.returned (.int .i64 r)∧Drawn0 w w':=by
 unfold Qag.f at h
 cases h
 have hcall:(callFunc 119 #[.slice A0 l0.length c0,.int .u8 a1]).run Tryz.prog w=.ok (.value (.int .i64 (ixOf l0 a1))) w:=by
  rw[run_callFunc_extern Tryz.func119 qq_6 qq_6 qq_6 (e:=Extern.BytealgIndexByte.indexByte) qq_6]
  cases A0 with
  | none =>
   obtain rfl:l0=[]:=by
    cases l0 with
    | nil=>rfl
    | cons a t=>obtain⟨ad,c,h1,_⟩:=Kd.C_get hr0 0 0 (by omega) (by simp);cases h1
   rw[Lib.run_indexByteNil];rfl
  | some ad =>
   rw[Lib.run_indexByteAt w ad l0.length c0 l0 rfl (fun i hi=>?_)]
   ·rfl
   ·obtain⟨a,ha,hx⟩:=Kd.at_int hr0 (i:Int) (by omega) (by omega)
    cases ha
    simpa [rd]using hx
 go_enter Tryz.func68,Tryz.ntmps68
 go_wp2;go_ret
 exact⟨rfl,Drawn0.refl _⟩
abbrev Q1:Int:=11400714785074694791
abbrev Q2:Int:=14029467366897019727
abbrev Q3:Int:=1609587929392839161
abbrev Q4:Int:=9650029242287828579
abbrev Q5:Int:=2870177450012600261
def IsSt(W:World)(b g:Nat)(sd v0 v1 v2 v3:Int)(rest:List Int)(n:Int):Prop :=
 ∃rv,W.heap[g]? = some (.cells #[.int .u64 sd,.int .u64 v0,.int .u64 v1,.int .u64 v2,.int .u64 v3,rv,.int .u64 n] 280 (0,0))∧R8 W b rv rest
theorem st_New(sd:Int)(w:World) :
  Calls Tryz.prog 154 #[.int .u64 sd] w fun e w'=>e=.returned (.pointer (some ⟨w.heap.size,0,none⟩))∧IsSt w' w.heap.size w.heap.size sd (IntKind.u64.wrap (IntKind.u64.wrap (sd+Q1)+Q2)) (IntKind.u64.wrap (sd+Q2)) sd (IntKind.u64.wrap (sd-Q1)) [] 0∧Below w.heap.size w w':=by
 have hu:=Tryz.underlying280;have hu2:=Tryz.underlying278
 go_enter Tryz.func154,Tryz.ntmps154
 go_wp2_with fail
 go_region
 go_wp2_with fail
 go_region
 go_wp2_with fail
 go_region
 go_wp2_with fail
 go_region
 go_wp2_with fail
 go_ret
 refine⟨rfl,⟨_,Qem w _,Kd.R_nil _ _ _ _ _⟩,Qcy (Qcy (Qcy (Qcy (Qcx (Below.refl _ _) _))))⟩
def rotP(x n:Int):Int:=(Qad.f x n).getD 0
theorem Qks(x n:Int)(h:0≤n∧n<64∧Go.bits .and .u64 (IntKind.u64.wrap n) 63=n):Qad.f x n=some (rotP x n):=by
 unfold rotP Qad.f;rw[h.2.2,if_pos h.1,if_pos (by rw[IntWalk.u64_in _ (by omega)];omega)];rfl
def Qkt(x y:Int):Int:=(Qcu.f x y).getD 0
theorem into_is(x y:Int):Qcu.f x y=some (Qkt x y):=by
 unfold Qkt Qcu.f;rw[Qks _ 31 ⟨by decide,by decide,by kernel_rfl⟩];rfl
def numP(n:Nat)(l:List Int):Int:=(Qcv.f (n+1) l n).getD 0
theorem num8_is(l:List Int)(h:8≤l.length):Qcv.f 9 l 8=some (numP 8 l):=by
 obtain⟨v,hv⟩:∃v,Qcv.f 9 l 8=some v:=by
  simp[Qcv.f,Qcv.l0,show(1:Int)<l.length by omega,show(2:Int)<l.length by omega,show(3:Int)<l.length by omega,show(4:Int)<l.length by omega,show(5:Int)<l.length by omega,show(6:Int)<l.length by omega,show(7:Int)<l.length by omega,show(0:Int)<l.length by omega,wrap64];omega
 unfold numP;rw[show(8:Nat)+1=9 from rfl,show(((8:Nat):Int))=8 from rfl,hv];rfl
theorem num4_is(l:List Int)(h:4≤l.length):Qcv.f 5 l 4=some (numP 4 l):=by
 obtain⟨v,hv⟩:∃v,Qcv.f 5 l 4=some v:=by
  simp[Qcv.f,Qcv.l0,show(1:Int)<l.length by omega,show(2:Int)<l.length by omega,show(3:Int)<l.length by omega,show(0:Int)<l.length by omega,wrap64];omega
 unfold numP;rw[show(4:Nat)+1=5 from rfl,show(((4:Nat):Int))=4 from rfl,hv];rfl
abbrev V4:=Int × Int × Int × Int
def Qku(v:V4)(l:List Int):V4:=(Qkt v.1 (numP 8 l),Qkt v.2.1 (numP 8 (l.drop 8)),Qkt v.2.2.1 (numP 8 (l.drop 16)),Qkt v.2.2.2 (numP 8 (l.drop 24)))
def Qkv:Nat→V4→List Int→V4
 | 0,v,_=>v
 | m+1,v,l=>Qkv m (Qku v l) (l.drop 32)
def lenV:Value→Nat
 | .slice _ n _=>n
 | _=>0
def Qkw(i:Nat)(v:V4)(l:List Int):V4:=(if 0<i then Qkt v.1 (numP 8 l)else v.1,if 1<i then Qkt v.2.1 (numP 8 (l.drop 8))else v.2.1,if 2<i then Qkt v.2.2.1 (numP 8 (l.drop 16))else v.2.2.1,if 3<i then Qkt v.2.2.2 (numP 8 (l.drop 24))else v.2.2.2)
def StAt(W:World)(g:Nat)(sd:Int)(v:V4)(rv:Value)(n:Int):Prop:=W.heap[g]? = some (.cells #[.int .u64 sd,.int .u64 v.1,.int .u64 v.2.1,.int .u64 v.2.2.1,.int .u64 v.2.2.2,rv,.int .u64 n] 280 (0,0))
abbrev Q8(W:World)(b:Nat)(v:Value)(xs:List Int):Prop:=Kd.Q (Kd.int .u8) 5 W b (fun _=>True) v xs
theorem Qkx(A:Option Addr)(n c m:Nat)(j:Int)(hj:j=(m:Int))(hm:m≤n) :
  ∃A':Option Addr,(∀W:World,(Instr.slice 40 (.slice A n c) (some (.int .i64 j)) none none).run Tryz.prog W=.ok (.slice A' (n-m) (c-m)) W) ∧
   ∀(W:World) (b:Nat) (xs:List Int),xs.length=n→Q8 W b (.slice A n c) xs→Q8 W b (.slice A' (n-m) (c-m)) (xs.drop m):=by
 subst hj;obtain⟨i,hi,hsz⟩:∃i,Tryz.prog.info? 5=some i∧i.size=1:=by
  have h:=Qjb
  cases hh:Tryz.prog.info? 5 with
  | none=>rw[hh]at h;cases h
  | some i =>
   rw[hh]at h;simp only[Option.map_some,Option.some.injEq,Prod.mk.injEq]at h;exact⟨i,rfl,h.2.1⟩
 refine⟨if c=m then A else A.map (·.add (m*1)),fun W=>?_,fun W b xs hn hq=>?_⟩
 ·have h:=Qez (P:=Tryz.prog) 40 5 .i64 Tryz.underlying40 hi 1 hsz A n c (m:Int) (by omega) (by omega) W;rw[Int.toNat_natCast]at h;exact h
 ·exact Kd.Q_drop hq (by omega)
theorem Qky{W:World}{b:Nat}{A:Option Addr}{n c:Nat}{l:List Int}(hQ:Q8 W b (.slice A n c) l)(h8:8≤l.length) :
  Calls Tryz.prog 199 #[.slice A n c,.int .i64 8] W fun e w'=>e=.returned (.int .u64 (numP 8 l))∧Drawn0 W w':=by
 obtain⟨rfl,h1,h2⟩:=Kd.Q_reads' hQ;exact Qcv.calls 9 A c l 8 _ W h2 h1 (num8_is l h8)
theorem num4_at{W:World}{b:Nat}{A:Option Addr}{n c:Nat}{l:List Int}(hQ:Q8 W b (.slice A n c) l)(h8:4≤l.length) :
  Calls Tryz.prog 199 #[.slice A n c,.int .i64 4] W fun e w'=>e=.returned (.int .u64 (numP 4 l))∧Drawn0 W w':=by
 obtain⟨rfl,h1,h2⟩:=Kd.Q_reads' hQ;exact Qcv.calls 5 A c l 4 _ W h2 h1 (num4_is l h8)
theorem Qkz(x y:Int)(W:World):Calls Tryz.prog 198 #[.int .u64 x,.int .u64 y] W fun e w'=>e=.returned (.int .u64 (Qkt x y))∧Drawn0 W w':=Qcu.calls x y _ W (into_is x y)
end Go.Proofs.YteaocbonofboeaaGreat.C
end
