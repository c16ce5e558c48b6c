/- Texts of this claim's author and of the print of its functions, merged by merge.py. -/
import Derived.Test.YtnnofopfbeklbaaGreatMH02
import Derived.Test.YtnnofopfbeklbaaGreatMH03
set_option linter.unusedVariables false
set_option linter.unusedSimpArgs false
set_option maxHeartbeats 8000000
set_option maxRecDepth 100000
section
namespace Go.Proofs.YtnnofopfbeklbaaGreat.C
open Go.RowKit Go.Proofs.YtnnofopfbeklbaaGreatW.PrintWords Go.Proofs.YtnnofopfbeklbaaGreatW.PrintLast Go.Proofs.YtnnofopfbeklbaaGreatW.PrintMore
attribute [local go_sem] Qif Qig Qih Qii Qij Qik Qil Qim
attribute [local go_sem high] eqA122
def Qbu.l0:Nat→List (S122)→Bool→List (S122)→Int→Int→Int→Int→Option ((List (S122)))
 | 0,_,_,_,_,_,_,_=>none
 | k+1,x5,x6,x9,x10,x11,x425000,x425001=>if x11<x10 then(if 0≤x11 then(if x11<(x9.length:Int)then(if(((Qjj x9 x11).f0) == x425000 && (((Qjj x9 x11).f1) == x425001))=true then(if x5.length<8796093022208 then(Qbu.l0 k (x5++[(⟨(Qjj x9 x11).f0,(Qjj x9 x11).f1⟩:S122)]) true x9 x10 (wrap64 (x11+1)) x425000 x425001)else(none))else(if x6=true then(if x5.length<8796093022208 then(Qbu.l0 k (x5++[(⟨(Qjj x9 x11).f0,(Qjj x9 x11).f1⟩:S122)]) x6 x9 x10 (wrap64 (x11+1)) x425000 x425001)else(none))else((Qbx.f x425000 x425001 ((Qjj x9 x11).f0) ((Qjj x9 x11).f1)).bind fun t436=>(if t436=true then(if x5.length<8796093022208 then((some (x5++[(⟨x425000,x425001⟩:S122)]:List (S122))).bind fun y437=>(if y437.length<8796093022208 then(Qbu.l0 k (y437++[(⟨(Qjj x9 x11).f0,(Qjj x9 x11).f1⟩:S122)]) true x9 x10 (wrap64 (x11+1)) x425000 x425001)else(none)))else(none))else(if x5.length<8796093022208 then(Qbu.l0 k (x5++[(⟨(Qjj x9 x11).f0,(Qjj x9 x11).f1⟩:S122)]) x6 x9 x10 (wrap64 (x11+1)) x425000 x425001)else(none))))))else(none))else(none))else(if x6=true then(some x5)else(if x5.length<8796093022208 then(some (x5++[(⟨x425000,x425001⟩:S122)]))else(none)))
def Qbu.f(k:Nat)(l0:List (S122))(a1_0:Int)(a1_1:Int):Option ((List (S122))):=Qbu.l0 k ([]:List (S122)) false l0 (l0.length:Int) 0 a1_0 a1_1
theorem Qbu.calls (k:Nat) (A0:Option Addr) (c0:Nat) (l0:List (S122)) (a1_0:Int) (a1_1:Int) (r:List (S122)) (w:World) (hr0:Kd.C k122 w A0 l0.length l0) (hc0:l0.length≤c0) (h:Qbu.f k l0 a1_0 a1_1=some r) :
  Calls Tryz.prog 110 #[.slice A0 l0.length c0,.agg #[.int .u64 a1_0,.int .u32 a1_1]] w fun e w'=>∃v0_:Value,e=.returned (v0_)∧Kd.R k122 122 w' w.heap.size (fun _=>True) v0_ r∧Below w.heap.size w w':=by
 have hu122:=Tryz.underlying122
 have HR0:=QA hr0
 have HC0:=QA hc0
 clear hr0 hc0
 have HB:=QA (Below.refl w.heap.size w)
 have H:(Qbu.l0 k ([]:List (S122)) false l0 (l0.length:Int) 0 a1_0 a1_1)=some r:=h
 clear h
 have H':=QA H
 clear H
 go_enter Tryz.func110,Tryz.ntmps110
 go_wp2_with (first |((with_reducible refine Qfs (N:=3) rfl ?_);refine qq_e 3 #[.int .u64 a1_0,.int .u32 a1_1] 122 ?_;intro gb424 hg w3 hbox hb;have n0_:=QA (Qfh qq_b hb);have n1_:=QA (hbox);have n2_:=QA (qq_s hg:w.heap.size≤gb424);have n3_:=n2_;clear HB;have HB:=n0_;have BK424:=n1_;have GW424:=n2_;have GE424:=n3_;clear n0_ n1_ n2_ n3_;clear hb hbox hg))
 go_loopg [5,6,11] k (fun kq v5 v6 v11 w'=>∃(x5_1:List (S122)) (x6_1:Bool) (x11_1:Int),v6=.bool x6_1∧v11=.int .i64 x11_1∧Aside0 (Qbu.l0 kq x5_1 x6_1 l0 (l0.length:Int) x11_1 a1_0 a1_1=some r)∧Aside0 (kq≤k)∧Aside0 (Kd.R k122 122 w' w.heap.size (fun k_=>k_≠gb424) v5 x5_1)∧Aside0 (w'.heap[gb424]? = some (.cells #[.int .u64 a1_0,.int .u32 a1_1] 122 (0,0)))∧Aside0 (Below w.heap.size w w'))
 case atStart=>exact⟨(([]:List (S122))),(false),(0),qq_5,qq_5,H',⟨Nat.le_refl _⟩,⟨by first|exact Kd.R_nil _ _ _ _ _|exact Kd.N_nil _ _ _ _ _|exact Kd.V_nil _ _ _ _ _|exact Kd.Q_nil _ _ _ _ _|exact Kd.S_nil _ _ _ _ _⟩,⟨by(with_reducible repeat(first|apply Qeg|apply Qef|apply Qee));exact BK424.out⟩,⟨qq_b⟩⟩
 case round =>
  clear H'
  obtain⟨x5_1,x6_1,x11_1,rfl,rfl,HA,HK1,HO_5,BK424,HB⟩:=hrel
  cases gk with
  | zero=>exact absurd HA.out (by simp[Qbu.l0])
  | succ k1 =>
   have H:=HA.out
   clear HA
   simp only[Qbu.l0]at H
   by_cases c4:x11_1<(l0.length:Int)
   ·rw [if_pos c4]at H
    have c4b0:decide (x11_1<(l0.length:Int))=true:=decide_eq_true c4
    clear c4
    by_cases c5:0≤x11_1
    ·rw [if_pos c5]at H
     have c5b0:decide (0≤x11_1)=true:=decide_eq_true c5
     clear c5
     by_cases c6:x11_1<(l0.length:Int)
     ·rw [if_pos c6]at H
      have c6b0:decide (x11_1<(l0.length:Int))=true:=decide_eq_true c6
      clear c6
      by_cases c7:(((Qjj l0 x11_1).f0) == a1_0 && (((Qjj l0 x11_1).f1) == a1_1))=true
      ·rw[if_pos c7]at H
       have c7b0:(((Qjj l0 x11_1).f0) == a1_0 && (((Qjj l0 x11_1).f1) == a1_1))=true:=c7
       (try(have c7b1:decide (((Qjj l0 x11_1).f0)=a1_0 && (((Qjj l0 x11_1).f1) == a1_1))=true:=by simpa using c7))
       (try(have c7b2:(((Qjj l0 x11_1).f0) == a1_0 && (((Qjj l0 x11_1).f1) == a1_1))=true:=by simpa using c7))
       clear c7
       by_cases c8:x5_1.length<8796093022208
       ·rw[if_pos c8]at H
        have LMc8:=QA c8
        clear c8
        obtain⟨y430,hy430⟩:∃y_:List (S122),y_=(x5_1++[(⟨(Qjj l0 x11_1).f0,(Qjj l0 x11_1).f1⟩:S122)]):=⟨_,rfl⟩
        replace H:(Qbu.l0 k1 y430 true l0 (l0.length:Int) (wrap64 (x11_1+1)) a1_0 a1_1)=some r:=by first |(rw[hy430];with_reducible exact H) |(have H2_:=(Option.bind_some _ _).symm.trans H;rw[hy430];with_reducible exact H2_) |(have H2_:=(Option.bind_some _ _).symm.trans H;with_reducible exact H2_)|with_reducible exact H |(rw[hy430];exact H)|exact H
        have Ny430:=QA hy430
        clear hy430
        have H':=QA H
        clear H
        have p428:0≤(x11_1:Int):=of_decide_eq_true qq_4
        have q428:x11_1<(l0.length:Int):=of_decide_eq_true qq_4
        obtain⟨ad428,e428,hx428_0,hx428_1⟩:=Qjk HR0.out x11_1 p428 q428
        cases e428
        replace hx428_0:=qq_h HB.out hx428_0
        replace hx428_1:=qq_h HB.out hx428_1
        replace p428:=eq_true p428
        replace q428:=eq_true q428
        go_wp2_with (first |((with_reducible refine Qfs (N:=8) rfl ?_);refine qq_e 8 #[.int .u64 0,.int .u32 0] 122 ?_;intro gb429 hg w9 hbox hb;have n0_:=QA (Kd.R_below (Kd.R_elderB qq_3 gb429 (Nat.le_of_eq hg.symm)) hb);have n1_:=QA (Qeh (g:=gb424) (o:=.cells #[.int .u64 a1_0,.int .u32 a1_1] 122 (0,0)) qq_0 hb);have n2_:=QA (Qfh qq_b hb);have n3_:=QA (hbox);have n4_:=QA (qq_s hg:w.heap.size≤gb429);have n5_:=n4_;have n6_:=QA ((by rw[hg];exact Nat.ne_of_lt (Qdr (g:=gb424) (o:=.cells #[.int .u64 a1_0,.int .u32 a1_1] 122 (0,0)) qq_0):gb424≠gb429));have n7_:=QA ((by rw[hg];exact Nat.ne_of_gt (Qdr (g:=gb424) (o:=.cells #[.int .u64 a1_0,.int .u32 a1_1] 122 (0,0)) qq_0):gb429≠gb424));clear HO_5 BK424 HB;have HO_5:=n0_;have BK424:=n1_;have HB:=n2_;have BK429:=n3_;have GW429:=n4_;have GE429:=n5_;have NB424_429:=n6_;have NB429_424:=n7_;clear n0_ n1_ n2_ n3_ n4_ n5_ n6_ n7_ hb hbox hg;have hnb10:=NB429_424.out;have hnc10:=NB424_429.out;have hcz11_0:=qq_c (.int .u64 0) BK429.out 0 rfl;have hcz11_1:=qq_c (.int .u32 0) BK429.out 1 rfl;have hfz11_0:=Qdt BK429.out 0;have hfz11_1:=Qdt BK429.out 1;have hcz12_0:=qq_c (.int .u64 a1_0) BK424.out 0 rfl;have hcz12_1:=qq_c (.int .u32 a1_1) BK424.out 1 rfl;have hfz12_0:=Qdt BK424.out 0;have hfz12_1:=Qdt BK424.out 1) |((with_reducible refine Qio (b:=.append) (xs:=#[.tmp 29,.tmp 31]) rfl ?_);at_builtin;refine Kd.R_append k122 (w0:=w) w.heap.size rfl (.tmp 29) (.tmp 31) 49 122 (.agg #[(.int .u64 0),(.int .u32 0)]) 16 rfl Tryz.underlying49 Qix rfl (by decide) (by omega) u5 x5_1 (⟨(Qjj l0 x11_1).f0,(Qjj l0 x11_1).f1⟩:S122) [.int .u64 ((Qjj l0 x11_1).f0),.int .u32 ((Qjj l0 x11_1).f1)] (fun k_=>k_≠gb424∧k_≠gb429) (fun _=>False) rfl qq_11 ?aP (fun _ hk=>hk.elim) ?aF ?aO ?aB ?aS ?aL ?_;(case aP=>exact Qji _ _ _ (⟨(Qjj l0 x11_1).f0,(Qjj l0 x11_1).f1⟩:S122));(case aB=>exact qq_b);(case aF=>exact(fun k_ hk=>⟨Kd.freshB (g:=gb424) (o:=.cells #[.int .u64 a1_0,.int .u32 a1_1] 122 (0,0)) qq_9 k_ hk,Kd.freshB (g:=gb429) (o:=.cells #[.int .u64 ((Qjj l0 x11_1).f0),.int .u32 ((Qjj l0 x11_1).f1)] 122 (0,0)) qq_8 k_ hk⟩));(case aO=>exact(by(with_reducible repeat(first|apply Kd.R_alloc|apply Kd.R_drewN|apply Kd.R_drew));exact Kd.R_mono (Kd.R_far (p:=⟨gb429,1,none⟩) (Kd.R_far (p:=⟨gb429,0,none⟩) (Kd.R_mono HO_5.out (fun k_ hk=>(⟨hk,hk.2⟩:_∧k_≠gb429))) (fun _ hk=>hk.2) (.int .u64 ((Qjj l0 x11_1).f0))) (fun _ hk=>hk.2) (.int .u32 ((Qjj l0 x11_1).f1))) (fun _ hk=>⟨hk.1.1,hk.1.2⟩)));(case aS=>exact(Qfg qq_b));(case aL=>have:=LMc8.out;omega);intro v431 w13 ho hb hg hat;rw[← Ny430.out]at ho;have n0_:=QA (Qdu (g:=gb424) (o:=.cells #[.int .u64 a1_0,.int .u32 a1_1] 122 (0,0)) qq_9 hg (Kd.R_away HO_5.out (fun _ hk=>hk.1)));have n1_:=QA (Qdu (g:=gb429) (o:=.cells #[.int .u64 ((Qjj l0 x11_1).f0),.int .u32 ((Qjj l0 x11_1).f1)] 122 (0,0)) qq_8 hg (Kd.R_away HO_5.out (fun _ hk=>hk.2)));have n2_:=QA (hb);have n3_:=QA (ho);clear BK424 BK429 HB HO_5;have BK424:=n0_;have BK429:=n1_;have HB:=n2_;have HO432:=n3_;clear n0_ n1_ n2_ n3_;clear ho hb hg hat))
        go_roundg k1
        case measure=>have:=HK1.out;omega
        case rel=>exact⟨(y430),(true),(wrap64 (x11_1+1)),qq_5,qq_5,H',⟨by have:=HK1.out;omega⟩,⟨by(with_reducible repeat(first|apply Kd.R_alloc|apply Kd.R_drewN|apply Kd.R_drew));exact Kd.R_mono HO432.out (fun _ hk=>hk.1)⟩,⟨by(with_reducible repeat(first|apply Qeg|apply Qef|apply Qee));exact BK424.out⟩,⟨qq_b⟩⟩
       ·rw[if_neg c8]at H
        exact absurd H (by simp)
      ·rw [if_neg c7]at H
       have c7b0:(((Qjj l0 x11_1).f0) == a1_0 && (((Qjj l0 x11_1).f1) == a1_1))=false:=by simpa using c7
       (try(have c7b1:decide (((Qjj l0 x11_1).f0)=a1_0 && (((Qjj l0 x11_1).f1) == a1_1))=false:=by simpa using c7))
       (try(have c7b2:(((Qjj l0 x11_1).f0) == a1_0 && (((Qjj l0 x11_1).f1) == a1_1))=false:=by simpa using c7))
       (try(have c7b3:¬(((Qjj l0 x11_1).f0)=a1_0 && (((Qjj l0 x11_1).f1) == a1_1)):=by simpa using c7))
       clear c7
       by_cases c14:x6_1=true
       ·subst c14
        have H1:(if x5_1.length<8796093022208 then(Qbu.l0 k1 (x5_1++[(⟨(Qjj l0 x11_1).f0,(Qjj l0 x11_1).f1⟩:S122)]) true l0 (l0.length:Int) (wrap64 (x11_1+1)) a1_0 a1_1)else(none))=some r:=by rw[if_pos rfl]at H;exact H
        clear H
        have H:=H1
        clear H1
        by_cases c15:x5_1.length<8796093022208
        ·rw[if_pos c15]at H
         have LMc15:=QA c15
         clear c15
         obtain⟨y433,hy433⟩:∃y_:List (S122),y_=(x5_1++[(⟨(Qjj l0 x11_1).f0,(Qjj l0 x11_1).f1⟩:S122)]):=⟨_,rfl⟩
         replace H:(Qbu.l0 k1 y433 true l0 (l0.length:Int) (wrap64 (x11_1+1)) a1_0 a1_1)=some r:=by first |(rw[hy433];with_reducible exact H) |(have H2_:=(Option.bind_some _ _).symm.trans H;rw[hy433];with_reducible exact H2_) |(have H2_:=(Option.bind_some _ _).symm.trans H;with_reducible exact H2_)|with_reducible exact H |(rw[hy433];exact H)|exact H
         have Ny433:=QA hy433
         clear hy433
         have H':=QA H
         clear H
         have p428:0≤(x11_1:Int):=of_decide_eq_true qq_4
         have q428:x11_1<(l0.length:Int):=of_decide_eq_true qq_4
         obtain⟨ad428,e428,hx428_0,hx428_1⟩:=Qjk HR0.out x11_1 p428 q428
         cases e428
         replace hx428_0:=qq_h HB.out hx428_0
         replace hx428_1:=qq_h HB.out hx428_1
         replace p428:=eq_true p428
         replace q428:=eq_true q428
         go_wp2_with (first |((with_reducible refine Qfs (N:=8) rfl ?_);refine qq_e 8 #[.int .u64 0,.int .u32 0] 122 ?_;intro gb429 hg w16 hbox hb;have n0_:=QA (Kd.R_below (Kd.R_elderB qq_3 gb429 (Nat.le_of_eq hg.symm)) hb);have n1_:=QA (Qeh (g:=gb424) (o:=.cells #[.int .u64 a1_0,.int .u32 a1_1] 122 (0,0)) qq_0 hb);have n2_:=QA (Qfh qq_b hb);have n3_:=QA (hbox);have n4_:=QA (qq_s hg:w.heap.size≤gb429);have n5_:=n4_;have n6_:=QA ((by rw[hg];exact Nat.ne_of_lt (Qdr (g:=gb424) (o:=.cells #[.int .u64 a1_0,.int .u32 a1_1] 122 (0,0)) qq_0):gb424≠gb429));have n7_:=QA ((by rw[hg];exact Nat.ne_of_gt (Qdr (g:=gb424) (o:=.cells #[.int .u64 a1_0,.int .u32 a1_1] 122 (0,0)) qq_0):gb429≠gb424));clear HO_5 BK424 HB;have HO_5:=n0_;have BK424:=n1_;have HB:=n2_;have BK429:=n3_;have GW429:=n4_;have GE429:=n5_;have NB424_429:=n6_;have NB429_424:=n7_;clear n0_ n1_ n2_ n3_ n4_ n5_ n6_ n7_ hb hbox hg;have hnb17:=NB429_424.out;have hnc17:=NB424_429.out;have hcz18_0:=qq_c (.int .u64 0) BK429.out 0 rfl;have hcz18_1:=qq_c (.int .u32 0) BK429.out 1 rfl;have hfz18_0:=Qdt BK429.out 0;have hfz18_1:=Qdt BK429.out 1;have hcz19_0:=qq_c (.int .u64 a1_0) BK424.out 0 rfl;have hcz19_1:=qq_c (.int .u32 a1_1) BK424.out 1 rfl;have hfz19_0:=Qdt BK424.out 0;have hfz19_1:=Qdt BK424.out 1) |((with_reducible refine Qio (b:=.append) (xs:=#[.tmp 29,.tmp 31]) rfl ?_);at_builtin;refine Kd.R_append k122 (w0:=w) w.heap.size rfl (.tmp 29) (.tmp 31) 49 122 (.agg #[(.int .u64 0),(.int .u32 0)]) 16 rfl Tryz.underlying49 Qix rfl (by decide) (by omega) u5 x5_1 (⟨(Qjj l0 x11_1).f0,(Qjj l0 x11_1).f1⟩:S122) [.int .u64 ((Qjj l0 x11_1).f0),.int .u32 ((Qjj l0 x11_1).f1)] (fun k_=>k_≠gb424∧k_≠gb429) (fun _=>False) rfl qq_11 ?aP (fun _ hk=>hk.elim) ?aF ?aO ?aB ?aS ?aL ?_;(case aP=>exact Qji _ _ _ (⟨(Qjj l0 x11_1).f0,(Qjj l0 x11_1).f1⟩:S122));(case aB=>exact qq_b);(case aF=>exact(fun k_ hk=>⟨Kd.freshB (g:=gb424) (o:=.cells #[.int .u64 a1_0,.int .u32 a1_1] 122 (0,0)) qq_9 k_ hk,Kd.freshB (g:=gb429) (o:=.cells #[.int .u64 ((Qjj l0 x11_1).f0),.int .u32 ((Qjj l0 x11_1).f1)] 122 (0,0)) qq_8 k_ hk⟩));(case aO=>exact(by(with_reducible repeat(first|apply Kd.R_alloc|apply Kd.R_drewN|apply Kd.R_drew));exact Kd.R_mono (Kd.R_far (p:=⟨gb429,1,none⟩) (Kd.R_far (p:=⟨gb429,0,none⟩) (Kd.R_mono HO_5.out (fun k_ hk=>(⟨hk,hk.2⟩:_∧k_≠gb429))) (fun _ hk=>hk.2) (.int .u64 ((Qjj l0 x11_1).f0))) (fun _ hk=>hk.2) (.int .u32 ((Qjj l0 x11_1).f1))) (fun _ hk=>⟨hk.1.1,hk.1.2⟩)));(case aS=>exact(Qfg qq_b));(case aL=>have:=LMc15.out;omega);intro v434 w20 ho hb hg hat;rw[← Ny433.out]at ho;have n0_:=QA (Qdu (g:=gb424) (o:=.cells #[.int .u64 a1_0,.int .u32 a1_1] 122 (0,0)) qq_9 hg (Kd.R_away HO_5.out (fun _ hk=>hk.1)));have n1_:=QA (Qdu (g:=gb429) (o:=.cells #[.int .u64 ((Qjj l0 x11_1).f0),.int .u32 ((Qjj l0 x11_1).f1)] 122 (0,0)) qq_8 hg (Kd.R_away HO_5.out (fun _ hk=>hk.2)));have n2_:=QA (hb);have n3_:=QA (ho);clear BK424 BK429 HB HO_5;have BK424:=n0_;have BK429:=n1_;have HB:=n2_;have HO435:=n3_;clear n0_ n1_ n2_ n3_;clear ho hb hg hat))
         go_roundg k1
         case measure=>have:=HK1.out;omega
         case rel=>exact⟨(y433),(true),(wrap64 (x11_1+1)),qq_5,qq_5,H',⟨by have:=HK1.out;omega⟩,⟨by(with_reducible repeat(first|apply Kd.R_alloc|apply Kd.R_drewN|apply Kd.R_drew));exact Kd.R_mono HO435.out (fun _ hk=>hk.1)⟩,⟨by(with_reducible repeat(first|apply Qeg|apply Qef|apply Qee));exact BK424.out⟩,⟨qq_b⟩⟩
        ·rw[if_neg c15]at H
         exact absurd H (by simp)
       ·replace c14:=Bool.eq_false_iff.mpr c14
        subst c14
        have H1:((Qbx.f a1_0 a1_1 ((Qjj l0 x11_1).f0) ((Qjj l0 x11_1).f1)).bind fun t436=>(if t436=true then(if x5_1.length<8796093022208 then((some (x5_1++[(⟨a1_0,a1_1⟩:S122)]:List (S122))).bind fun y437=>(if y437.length<8796093022208 then(Qbu.l0 k1 (y437++[(⟨(Qjj l0 x11_1).f0,(Qjj l0 x11_1).f1⟩:S122)]) true l0 (l0.length:Int) (wrap64 (x11_1+1)) a1_0 a1_1)else(none)))else(none))else(if x5_1.length<8796093022208 then(Qbu.l0 k1 (x5_1++[(⟨(Qjj l0 x11_1).f0,(Qjj l0 x11_1).f1⟩:S122)]) false l0 (l0.length:Int) (wrap64 (x11_1+1)) a1_0 a1_1)else(none))))=some r:=by rw[if_neg (show ¬(false=true)by decide)]at H;exact H
        clear H
        have H:=H1
        clear H1
        replace H:=Option.bind_eq_some_iff.mp H
        obtain⟨t436,A210,H⟩:=H
        replace H:(if t436=true then(if x5_1.length<8796093022208 then((some (x5_1++[(⟨a1_0,a1_1⟩:S122)]:List (S122))).bind fun y437=>(if y437.length<8796093022208 then(Qbu.l0 k1 (y437++[(⟨(Qjj l0 x11_1).f0,(Qjj l0 x11_1).f1⟩:S122)]) true l0 (l0.length:Int) (wrap64 (x11_1+1)) a1_0 a1_1)else(none)))else(none))else(if x5_1.length<8796093022208 then(Qbu.l0 k1 (x5_1++[(⟨(Qjj l0 x11_1).f0,(Qjj l0 x11_1).f1⟩:S122)]) false l0 (l0.length:Int) (wrap64 (x11_1+1)) a1_0 a1_1)else(none)))=some r:=H
        have A21:=QA A210
        clear A210
        by_cases c22:t436=true
        ·subst c22
         have H1:(if x5_1.length<8796093022208 then((some (x5_1++[(⟨a1_0,a1_1⟩:S122)]:List (S122))).bind fun y437=>(if y437.length<8796093022208 then(Qbu.l0 k1 (y437++[(⟨(Qjj l0 x11_1).f0,(Qjj l0 x11_1).f1⟩:S122)]) true l0 (l0.length:Int) (wrap64 (x11_1+1)) a1_0 a1_1)else(none)))else(none))=some r:=by rw[if_pos rfl]at H;exact H
         clear H
         have H:=H1
         clear H1
         by_cases c23:x5_1.length<8796093022208
         ·rw[if_pos c23]at H
          have LMc23:=QA c23
          clear c23
          obtain⟨y437,hy437⟩:∃y_:List (S122),y_=(x5_1++[(⟨a1_0,a1_1⟩:S122)]):=⟨_,rfl⟩
          replace H:(if y437.length<8796093022208 then(Qbu.l0 k1 (y437++[(⟨(Qjj l0 x11_1).f0,(Qjj l0 x11_1).f1⟩:S122)]) true l0 (l0.length:Int) (wrap64 (x11_1+1)) a1_0 a1_1)else(none))=some r:=by first |(rw[hy437];with_reducible exact H) |(have H2_:=(Option.bind_some _ _).symm.trans H;rw[hy437];with_reducible exact H2_) |(have H2_:=(Option.bind_some _ _).symm.trans H;with_reducible exact H2_)|with_reducible exact H |(rw[hy437];exact H)|exact H
          have Ny437:=QA hy437
          clear hy437
          by_cases c24:y437.length<8796093022208
          ·rw[if_pos c24]at H
           have LMc24:=QA c24
           clear c24
           obtain⟨y440,hy440⟩:∃y_:List (S122),y_=(y437++[(⟨(Qjj l0 x11_1).f0,(Qjj l0 x11_1).f1⟩:S122)]):=⟨_,rfl⟩
           replace H:(Qbu.l0 k1 y440 true l0 (l0.length:Int) (wrap64 (x11_1+1)) a1_0 a1_1)=some r:=by first |(rw[hy440];with_reducible exact H) |(have H2_:=(Option.bind_some _ _).symm.trans H;rw[hy440];with_reducible exact H2_) |(have H2_:=(Option.bind_some _ _).symm.trans H;with_reducible exact H2_)|with_reducible exact H |(rw[hy440];exact H)|exact H
           have Ny440:=QA hy440
           clear hy440
           have H':=QA H
           clear H
           have p428:0≤(x11_1:Int):=of_decide_eq_true qq_4
           have q428:x11_1<(l0.length:Int):=of_decide_eq_true qq_4
           obtain⟨ad428,e428,hx428_0,hx428_1⟩:=Qjk HR0.out x11_1 p428 q428
           cases e428
           replace hx428_0:=qq_h HB.out hx428_0
           replace hx428_1:=qq_h HB.out hx428_1
           replace p428:=eq_true p428
           replace q428:=eq_true q428
           go_wp2_with (first |((with_reducible refine Qfs (N:=8) rfl ?_);refine qq_e 8 #[.int .u64 0,.int .u32 0] 122 ?_;intro gb429 hg w25 hbox hb;have n0_:=QA (Kd.R_below (Kd.R_elderB qq_3 gb429 (Nat.le_of_eq hg.symm)) hb);have n1_:=QA (Qeh (g:=gb424) (o:=.cells #[.int .u64 a1_0,.int .u32 a1_1] 122 (0,0)) qq_0 hb);have n2_:=QA (Qfh qq_b hb);have n3_:=QA (hbox);have n4_:=QA (qq_s hg:w.heap.size≤gb429);have n5_:=n4_;have n6_:=QA ((by rw[hg];exact Nat.ne_of_lt (Qdr (g:=gb424) (o:=.cells #[.int .u64 a1_0,.int .u32 a1_1] 122 (0,0)) qq_0):gb424≠gb429));have n7_:=QA ((by rw[hg];exact Nat.ne_of_gt (Qdr (g:=gb424) (o:=.cells #[.int .u64 a1_0,.int .u32 a1_1] 122 (0,0)) qq_0):gb429≠gb424));clear HO_5 BK424 HB;have HO_5:=n0_;have BK424:=n1_;have HB:=n2_;have BK429:=n3_;have GW429:=n4_;have GE429:=n5_;have NB424_429:=n6_;have NB429_424:=n7_;clear n0_ n1_ n2_ n3_ n4_ n5_ n6_ n7_ hb hbox hg;have hnb26:=NB429_424.out;have hnc26:=NB424_429.out;have hcz27_0:=qq_c (.int .u64 0) BK429.out 0 rfl;have hcz27_1:=qq_c (.int .u32 0) BK429.out 1 rfl;have hfz27_0:=Qdt BK429.out 0;have hfz27_1:=Qdt BK429.out 1;have hcz28_0:=qq_c (.int .u64 a1_0) BK424.out 0 rfl;have hcz28_1:=qq_c (.int .u32 a1_1) BK424.out 1 rfl;have hfz28_0:=Qdt BK424.out 0;have hfz28_1:=Qdt BK424.out 1) |(go_at_call 158;(with_reducible refine(Qbx.calls a1_0 a1_1 ((Qjj l0 x11_1).f0) ((Qjj l0 x11_1).f1) true _ A21.out).mono ?_);rintro e w29 ⟨rfl,hb⟩;have n0_:=QA (Kd.R_below (by(with_reducible repeat(first|apply Kd.R_alloc|apply Kd.R_drewN|apply Kd.R_drew));exact(Kd.R_mono (Kd.R_far (p:=⟨gb429,1,none⟩) (Kd.R_far (p:=⟨gb429,0,none⟩) (Kd.R_mono HO_5.out (fun k_ hk=>(⟨hk,hk.2⟩:_∧k_≠gb429))) (fun _ hk=>hk.2) (.int .u64 ((Qjj l0 x11_1).f0))) (fun _ hk=>hk.2) (.int .u32 ((Qjj l0 x11_1).f1))) (fun _ h_=>h_.1))) hb);have n1_:=QA (Qeh (g:=gb424) (o:=.cells #[.int .u64 a1_0,.int .u32 a1_1] 122 (0,0)) qq_9 hb);have n2_:=QA (Qeh (g:=gb429) (o:=.cells #[.int .u64 ((Qjj l0 x11_1).f0),.int .u32 ((Qjj l0 x11_1).f1)] 122 (0,0)) qq_8 hb);have n3_:=QA (Qfh qq_b hb);clear HO_5 BK424 BK429 HB;have HO_5:=n0_;have BK424:=n1_;have BK429:=n2_;have HB:=n3_;clear n0_ n1_ n2_ n3_;(try clear hb);(try clear hb2);(try clear hk);(try clear hi);have hcz30_0:=qq_c (.int .u64 a1_0) BK424.out 0 rfl;have hcz30_1:=qq_c (.int .u32 a1_1) BK424.out 1 rfl;have hfz30_0:=Qdt BK424.out 0;have hfz30_1:=Qdt BK424.out 1) |((with_reducible refine Qio (b:=.append) (xs:=#[.tmp 25,.tmp 27]) rfl ?_);at_builtin;refine Kd.R_append k122 (w0:=w) w.heap.size rfl (.tmp 25) (.tmp 27) 49 122 (.agg #[(.int .u64 0),(.int .u32 0)]) 16 rfl Tryz.underlying49 Qix rfl (by decide) (by omega) u5 x5_1 (⟨a1_0,a1_1⟩:S122) [.int .u64 a1_0,.int .u32 a1_1] (fun k_=>k_≠gb424∧k_≠gb429) (fun _=>False) rfl rfl ?aP (fun _ hk=>hk.elim) ?aF ?aO ?aB ?aS ?aL ?_;(case aP=>exact Qji _ _ _ (⟨a1_0,a1_1⟩:S122));(case aB=>exact qq_b);(case aF=>exact(fun k_ hk=>⟨Kd.freshB (g:=gb424) (o:=.cells #[.int .u64 a1_0,.int .u32 a1_1] 122 (0,0)) qq_0 k_ hk,Kd.freshB (g:=gb429) (o:=.cells #[.int .u64 ((Qjj l0 x11_1).f0),.int .u32 ((Qjj l0 x11_1).f1)] 122 (0,0)) qq_0 k_ hk⟩));(case aO=>exact qq_3);(case aS=>exact(Qfg qq_b));(case aL=>have:=LMc23.out;omega);intro v438 w31 ho hb hg hat;rw[← Ny437.out]at ho;have n0_:=QA (Qdu (g:=gb424) (o:=.cells #[.int .u64 a1_0,.int .u32 a1_1] 122 (0,0)) qq_0 hg (Kd.R_away HO_5.out (fun _ hk=>hk.1)));have n1_:=QA (Qdu (g:=gb429) (o:=.cells #[.int .u64 ((Qjj l0 x11_1).f0),.int .u32 ((Qjj l0 x11_1).f1)] 122 (0,0)) qq_0 hg (Kd.R_away HO_5.out (fun _ hk=>hk.2)));have n2_:=QA (hb);have n3_:=QA (ho);clear BK424 BK429 HB HO_5;have BK424:=n0_;have BK429:=n1_;have HB:=n2_;have HO439:=n3_;clear n0_ n1_ n2_ n3_ ho hb hg hat;have hcz32_0:=qq_c (.int .u64 ((Qjj l0 x11_1).f0)) BK429.out 0 rfl;have hcz32_1:=qq_c (.int .u32 ((Qjj l0 x11_1).f1)) BK429.out 1 rfl;have hfz32_0:=Qdt BK429.out 0;have hfz32_1:=Qdt BK429.out 1) |((with_reducible refine Qio (b:=.append) (xs:=#[.tmp 29,.tmp 31]) rfl ?_);at_builtin;refine Kd.R_append k122 (w0:=w) w.heap.size rfl (.tmp 29) (.tmp 31) 49 122 (.agg #[(.int .u64 0),(.int .u32 0)]) 16 rfl Tryz.underlying49 Qix rfl (by decide) (by omega) v438 y437 (⟨(Qjj l0 x11_1).f0,(Qjj l0 x11_1).f1⟩:S122) [.int .u64 ((Qjj l0 x11_1).f0),.int .u32 ((Qjj l0 x11_1).f1)] (fun k_=>k_≠gb424∧k_≠gb429) (fun _=>False) rfl rfl ?aP (fun _ hk=>hk.elim) ?aF ?aO ?aB ?aS ?aL ?_;(case aP=>exact Qji _ _ _ (⟨(Qjj l0 x11_1).f0,(Qjj l0 x11_1).f1⟩:S122));(case aB=>exact qq_b);(case aF=>exact(fun k_ hk=>⟨Kd.freshB (g:=gb424) (o:=.cells #[.int .u64 a1_0,.int .u32 a1_1] 122 (0,0)) qq_0 k_ hk,Kd.freshB (g:=gb429) (o:=.cells #[.int .u64 ((Qjj l0 x11_1).f0),.int .u32 ((Qjj l0 x11_1).f1)] 122 (0,0)) qq_0 k_ hk⟩));(case aO=>exact qq_3);(case aS=>exact(Qfg qq_b));(case aL=>have:=LMc24.out;omega);intro v441 w33 ho hb hg hat;rw[← Ny440.out]at ho;have n0_:=QA (Qdu (g:=gb424) (o:=.cells #[.int .u64 a1_0,.int .u32 a1_1] 122 (0,0)) qq_0 hg (Kd.R_away HO439.out (fun _ hk=>hk.1)));have n1_:=QA (Qdu (g:=gb429) (o:=.cells #[.int .u64 ((Qjj l0 x11_1).f0),.int .u32 ((Qjj l0 x11_1).f1)] 122 (0,0)) qq_0 hg (Kd.R_away HO439.out (fun _ hk=>hk.2)));have n2_:=QA (hb);have n3_:=QA (ho);clear BK424 BK429 HB HO439;have BK424:=n0_;have BK429:=n1_;have HB:=n2_;have HO442:=n3_;clear n0_ n1_ n2_ n3_;clear ho hb hg hat))
           go_roundg k1
           case measure=>have:=HK1.out;omega
           case rel=>exact⟨(y440),(true),(wrap64 (x11_1+1)),qq_5,qq_5,H',⟨by have:=HK1.out;omega⟩,⟨by(with_reducible repeat(first|apply Kd.R_alloc|apply Kd.R_drewN|apply Kd.R_drew));exact Kd.R_mono HO442.out (fun _ hk=>hk.1)⟩,⟨by(with_reducible repeat(first|apply Qeg|apply Qef|apply Qee));exact BK424.out⟩,⟨qq_b⟩⟩
          ·rw[if_neg c24]at H
           exact absurd H (by simp)
         ·rw[if_neg c23]at H
          exact absurd H (by simp)
        ·replace c22:=Bool.eq_false_iff.mpr c22
         subst c22
         have H1:(if x5_1.length<8796093022208 then(Qbu.l0 k1 (x5_1++[(⟨(Qjj l0 x11_1).f0,(Qjj l0 x11_1).f1⟩:S122)]) false l0 (l0.length:Int) (wrap64 (x11_1+1)) a1_0 a1_1)else(none))=some r:=by rw[if_neg (show ¬(false=true)by decide)]at H;exact H
         clear H
         have H:=H1
         clear H1
         by_cases c34:x5_1.length<8796093022208
         ·rw[if_pos c34]at H
          have LMc34:=QA c34
          clear c34
          obtain⟨y443,hy443⟩:∃y_:List (S122),y_=(x5_1++[(⟨(Qjj l0 x11_1).f0,(Qjj l0 x11_1).f1⟩:S122)]):=⟨_,rfl⟩
          replace H:(Qbu.l0 k1 y443 false l0 (l0.length:Int) (wrap64 (x11_1+1)) a1_0 a1_1)=some r:=by first |(rw[hy443];with_reducible exact H) |(have H2_:=(Option.bind_some _ _).symm.trans H;rw[hy443];with_reducible exact H2_) |(have H2_:=(Option.bind_some _ _).symm.trans H;with_reducible exact H2_)|with_reducible exact H |(rw[hy443];exact H)|exact H
          have Ny443:=QA hy443
          clear hy443
          have H':=QA H
          clear H
          have p428:0≤(x11_1:Int):=of_decide_eq_true qq_4
          have q428:x11_1<(l0.length:Int):=of_decide_eq_true qq_4
          obtain⟨ad428,e428,hx428_0,hx428_1⟩:=Qjk HR0.out x11_1 p428 q428
          cases e428
          replace hx428_0:=qq_h HB.out hx428_0
          replace hx428_1:=qq_h HB.out hx428_1
          replace p428:=eq_true p428
          replace q428:=eq_true q428
          go_wp2_with (first |((with_reducible refine Qfs (N:=8) rfl ?_);refine qq_e 8 #[.int .u64 0,.int .u32 0] 122 ?_;intro gb429 hg w35 hbox hb;have n0_:=QA (Kd.R_below (Kd.R_elderB qq_3 gb429 (Nat.le_of_eq hg.symm)) hb);have n1_:=QA (Qeh (g:=gb424) (o:=.cells #[.int .u64 a1_0,.int .u32 a1_1] 122 (0,0)) qq_0 hb);have n2_:=QA (Qfh qq_b hb);have n3_:=QA (hbox);have n4_:=QA (qq_s hg:w.heap.size≤gb429);have n5_:=n4_;have n6_:=QA ((by rw[hg];exact Nat.ne_of_lt (Qdr (g:=gb424) (o:=.cells #[.int .u64 a1_0,.int .u32 a1_1] 122 (0,0)) qq_0):gb424≠gb429));have n7_:=QA ((by rw[hg];exact Nat.ne_of_gt (Qdr (g:=gb424) (o:=.cells #[.int .u64 a1_0,.int .u32 a1_1] 122 (0,0)) qq_0):gb429≠gb424));clear HO_5 BK424 HB;have HO_5:=n0_;have BK424:=n1_;have HB:=n2_;have BK429:=n3_;have GW429:=n4_;have GE429:=n5_;have NB424_429:=n6_;have NB429_424:=n7_;clear n0_ n1_ n2_ n3_ n4_ n5_ n6_ n7_ hb hbox hg;have hnb36:=NB429_424.out;have hnc36:=NB424_429.out;have hcz37_0:=qq_c (.int .u64 0) BK429.out 0 rfl;have hcz37_1:=qq_c (.int .u32 0) BK429.out 1 rfl;have hfz37_0:=Qdt BK429.out 0;have hfz37_1:=Qdt BK429.out 1;have hcz38_0:=qq_c (.int .u64 a1_0) BK424.out 0 rfl;have hcz38_1:=qq_c (.int .u32 a1_1) BK424.out 1 rfl;have hfz38_0:=Qdt BK424.out 0;have hfz38_1:=Qdt BK424.out 1) |(go_at_call 158;(with_reducible refine(Qbx.calls a1_0 a1_1 ((Qjj l0 x11_1).f0) ((Qjj l0 x11_1).f1) false _ A21.out).mono ?_);rintro e w39 ⟨rfl,hb⟩;have n0_:=QA (Kd.R_below (by(with_reducible repeat(first|apply Kd.R_alloc|apply Kd.R_drewN|apply Kd.R_drew));exact(Kd.R_mono (Kd.R_far (p:=⟨gb429,1,none⟩) (Kd.R_far (p:=⟨gb429,0,none⟩) (Kd.R_mono HO_5.out (fun k_ hk=>(⟨hk,hk.2⟩:_∧k_≠gb429))) (fun _ hk=>hk.2) (.int .u64 ((Qjj l0 x11_1).f0))) (fun _ hk=>hk.2) (.int .u32 ((Qjj l0 x11_1).f1))) (fun _ h_=>h_.1))) hb);have n1_:=QA (Qeh (g:=gb424) (o:=.cells #[.int .u64 a1_0,.int .u32 a1_1] 122 (0,0)) qq_9 hb);have n2_:=QA (Qeh (g:=gb429) (o:=.cells #[.int .u64 ((Qjj l0 x11_1).f0),.int .u32 ((Qjj l0 x11_1).f1)] 122 (0,0)) qq_8 hb);have n3_:=QA (Qfh qq_b hb);clear HO_5 BK424 BK429 HB;have HO_5:=n0_;have BK424:=n1_;have BK429:=n2_;have HB:=n3_;clear n0_ n1_ n2_ n3_;(try clear hb);(try clear hb2);(try clear hk);(try clear hi);have hcz40_0:=qq_c (.int .u64 ((Qjj l0 x11_1).f0)) BK429.out 0 rfl;have hcz40_1:=qq_c (.int .u32 ((Qjj l0 x11_1).f1)) BK429.out 1 rfl;have hfz40_0:=Qdt BK429.out 0;have hfz40_1:=Qdt BK429.out 1) |((with_reducible refine Qio (b:=.append) (xs:=#[.tmp 29,.tmp 31]) rfl ?_);at_builtin;refine Kd.R_append k122 (w0:=w) w.heap.size rfl (.tmp 29) (.tmp 31) 49 122 (.agg #[(.int .u64 0),(.int .u32 0)]) 16 rfl Tryz.underlying49 Qix rfl (by decide) (by omega) u5 x5_1 (⟨(Qjj l0 x11_1).f0,(Qjj l0 x11_1).f1⟩:S122) [.int .u64 ((Qjj l0 x11_1).f0),.int .u32 ((Qjj l0 x11_1).f1)] (fun k_=>k_≠gb424∧k_≠gb429) (fun _=>False) rfl rfl ?aP (fun _ hk=>hk.elim) ?aF ?aO ?aB ?aS ?aL ?_;(case aP=>exact Qji _ _ _ (⟨(Qjj l0 x11_1).f0,(Qjj l0 x11_1).f1⟩:S122));(case aB=>exact qq_b);(case aF=>exact(fun k_ hk=>⟨Kd.freshB (g:=gb424) (o:=.cells #[.int .u64 a1_0,.int .u32 a1_1] 122 (0,0)) qq_0 k_ hk,Kd.freshB (g:=gb429) (o:=.cells #[.int .u64 ((Qjj l0 x11_1).f0),.int .u32 ((Qjj l0 x11_1).f1)] 122 (0,0)) qq_0 k_ hk⟩));(case aO=>exact qq_3);(case aS=>exact(Qfg qq_b));(case aL=>have:=LMc34.out;omega);intro v444 w41 ho hb hg hat;rw[← Ny443.out]at ho;have n0_:=QA (Qdu (g:=gb424) (o:=.cells #[.int .u64 a1_0,.int .u32 a1_1] 122 (0,0)) qq_0 hg (Kd.R_away HO_5.out (fun _ hk=>hk.1)));have n1_:=QA (Qdu (g:=gb429) (o:=.cells #[.int .u64 ((Qjj l0 x11_1).f0),.int .u32 ((Qjj l0 x11_1).f1)] 122 (0,0)) qq_0 hg (Kd.R_away HO_5.out (fun _ hk=>hk.2)));have n2_:=QA (hb);have n3_:=QA (ho);clear BK424 BK429 HB HO_5;have BK424:=n0_;have BK429:=n1_;have HB:=n2_;have HO445:=n3_;clear n0_ n1_ n2_ n3_;clear ho hb hg hat))
          go_roundg k1
          case measure=>have:=HK1.out;omega
          case rel=>exact⟨(y443),(false),(wrap64 (x11_1+1)),qq_5,qq_5,H',⟨by have:=HK1.out;omega⟩,⟨by(with_reducible repeat(first|apply Kd.R_alloc|apply Kd.R_drewN|apply Kd.R_drew));exact Kd.R_mono HO445.out (fun _ hk=>hk.1)⟩,⟨by(with_reducible repeat(first|apply Qeg|apply Qef|apply Qee));exact BK424.out⟩,⟨qq_b⟩⟩
         ·rw[if_neg c34]at H
          exact absurd H (by simp)
     ·rw[if_neg c6]at H
      exact absurd H (by simp)
    ·rw[if_neg c5]at H
     exact absurd H (by simp)
   ·rw[if_neg c4]at H
    have c4b0:decide (x11_1<(l0.length:Int))=false:=decide_eq_false c4
    clear c4
    by_cases c42:x6_1=true
    ·subst c42
     have H1:(some x5_1)=some r:=by rw[if_pos rfl]at H;exact H
     clear H
     have H:=H1
     clear H1
     obtain rfl:=Option.some.inj H
     go_wp2
     go_ret
     exact⟨_,by first|rfl |(simp[Qis,Qit]<;>rfl) |(simp[*,Qis,Qit]<;>rfl),by(with_reducible repeat(first|apply Kd.R_alloc|apply Kd.R_drewN|apply Kd.R_drew));exact Kd.R_mono HO_5.out (fun _ hk=>trivial),qq_b⟩
    ·replace c42:=Bool.eq_false_iff.mpr c42
     subst c42
     have H1:(if x5_1.length<8796093022208 then(some (x5_1++[(⟨a1_0,a1_1⟩:S122)]))else(none))=some r:=by rw[if_neg (show ¬(false=true)by decide)]at H;exact H
     clear H
     have H:=H1
     clear H1
     by_cases c43:x5_1.length<8796093022208
     ·rw[if_pos c43]at H
      have LMc43:=QA c43
      clear c43
      obtain⟨y425,hy425⟩:∃y_:List (S122),y_=(x5_1++[(⟨a1_0,a1_1⟩:S122)]):=⟨_,rfl⟩
      replace H:(some y425)=some r:=by first |(rw[hy425];with_reducible exact H) |(have H2_:=(Option.bind_some _ _).symm.trans H;rw[hy425];with_reducible exact H2_) |(have H2_:=(Option.bind_some _ _).symm.trans H;with_reducible exact H2_)|with_reducible exact H |(rw[hy425];exact H)|exact H
      have Ny425:=QA hy425
      clear hy425
      obtain rfl:=Option.some.inj H
      have hcz44_0:=qq_c (.int .u64 a1_0) BK424.out 0 rfl
      have hcz44_1:=qq_c (.int .u32 a1_1) BK424.out 1 rfl
      have hfz44_0:=Qdt BK424.out 0
      have hfz44_1:=Qdt BK424.out 1
      go_wp2_with (first |((with_reducible refine Qio (b:=.append) (xs:=#[.tmp 36,.tmp 38]) rfl ?_);at_builtin;refine Kd.R_append k122 (w0:=w) w.heap.size rfl (.tmp 36) (.tmp 38) 49 122 (.agg #[(.int .u64 0),(.int .u32 0)]) 16 rfl Tryz.underlying49 Qix rfl (by decide) (by omega) u5 x5_1 (⟨a1_0,a1_1⟩:S122) [.int .u64 a1_0,.int .u32 a1_1] (fun k_=>k_≠gb424) (fun _=>False) rfl rfl ?aP (fun _ hk=>hk.elim) ?aF ?aO ?aB ?aS ?aL ?_;(case aP=>exact Qji _ _ _ (⟨a1_0,a1_1⟩:S122));(case aB=>exact qq_b);(case aF=>exact(fun k_ hk=>Kd.freshB (g:=gb424) (o:=.cells #[.int .u64 a1_0,.int .u32 a1_1] 122 (0,0)) qq_0 k_ hk));(case aO=>exact qq_3);(case aS=>exact(Qfg qq_b));(case aL=>have:=LMc43.out;omega);intro v426 w45 ho hb hg hat;rw[← Ny425.out]at ho;have n0_:=QA (Qdu (g:=gb424) (o:=.cells #[.int .u64 a1_0,.int .u32 a1_1] 122 (0,0)) qq_0 hg (Kd.R_away HO_5.out (fun _ hk=>hk)));have n1_:=QA (hb);have n2_:=QA (ho);clear BK424 HB HO_5;have BK424:=n0_;have HB:=n1_;have HO427:=n2_;clear n0_ n1_ n2_;clear ho hb hg hat))
      go_ret
      exact⟨_,by first|rfl |(simp[Qis,Qit]<;>rfl) |(simp[*,Qis,Qit]<;>rfl),by(with_reducible repeat(first|apply Kd.R_alloc|apply Kd.R_drewN|apply Kd.R_drew));exact Kd.R_mono HO427.out (fun _ hk=>trivial),qq_b⟩
     ·rw[if_neg c43]at H
      exact absurd H (by simp)
end Go.Proofs.YtnnofopfbeklbaaGreat.C
end
section
namespace Go.Proofs.YtnnofopfbeklbaaGreat.C
open Go.RowKit Go.Proofs.YtnnofopfbeklbaaGreatW.PrintWords Go.Proofs.YtnnofopfbeklbaaGreatW.PrintLast Go.Proofs.YtnnofopfbeklbaaGreatW.PrintMore
attribute [local go_sem] Qif Qig Qih Qii Qij Qik Qil Qim
def Qbv.l0:Nat→List (S122)→List (S122)→Int→Int→Option ((List (S122)))
 | 0,_,_,_,_=>none
 | k+1,x3,x6,x7,x8=>if x8<x7 then(if 0≤x8 then(if x8<(x6.length:Int)then((Qbu.f k x3 ((Qjj x6 x8).f0) ((Qjj x6 x8).f1)).bind fun t448=>(Qbv.l0 k t448 x6 x7 (wrap64 (x8+1))))else(none))else(none))else(some x3)
def Qbv.f(k:Nat)(l0:List (S122)):Option ((List (S122))):=Qbv.l0 k ([]:List (S122)) l0 (l0.length:Int) 0
theorem Qbv.calls(k:Nat)(A0:Option Addr)(c0:Nat)(l0:List (S122))(r:List (S122))(w:World)(hr0:Kd.C k122 w A0 l0.length l0)(hc0:l0.length≤c0)(h:Qbv.f k l0=some r) :
  Calls Tryz.prog 66 #[.slice A0 l0.length c0] w fun e w'=>∃v0_:Value,e=.returned (v0_)∧Kd.R k122 122 w' w.heap.size (fun _=>True) v0_ r∧Below w.heap.size w w':=by
 have hu122:=Tryz.underlying122
 have HR0:=QA hr0
 have HC0:=QA hc0
 clear hr0 hc0
 have HB:=QA (Below.refl w.heap.size w)
 have H:(Qbv.l0 k ([]:List (S122)) l0 (l0.length:Int) 0)=some r:=h
 clear h
 have H':=QA H
 clear H
 go_enter Tryz.func66,Tryz.ntmps66
 go_wp2
 go_loopg [3,8] k (fun kq v3 v8 w'=>∃(x3_1:List (S122)) (x8_1:Int),v8=.int .i64 x8_1∧Aside0 (Qbv.l0 kq x3_1 l0 (l0.length:Int) x8_1=some r)∧Aside0 (kq≤k)∧Aside0 (Kd.R k122 122 w' w.heap.size (fun _=>True) v3 x3_1)∧Aside0 (Below w.heap.size w w'))
 case atStart=>exact⟨(([]:List (S122))),(0),qq_5,H',⟨Nat.le_refl _⟩,⟨by first|exact Kd.R_nil _ _ _ _ _|exact Kd.N_nil _ _ _ _ _|exact Kd.V_nil _ _ _ _ _|exact Kd.Q_nil _ _ _ _ _|exact Kd.S_nil _ _ _ _ _⟩,⟨qq_b⟩⟩
 case round =>
  clear H'
  obtain⟨x3_1,x8_1,rfl,HA,HK1,HO_3,HB⟩:=hrel
  cases gk with
  | zero=>exact absurd HA.out (by simp[Qbv.l0])
  | succ k1 =>
   have H:=HA.out
   clear HA
   simp only[Qbv.l0]at H
   by_cases c2:x8_1<(l0.length:Int)
   ·rw[if_pos c2]at H
    have c2b0:decide (x8_1<(l0.length:Int))=true:=decide_eq_true c2
    clear c2
    by_cases c3:0≤x8_1
    ·rw[if_pos c3]at H
     have c3b0:decide (0≤x8_1)=true:=decide_eq_true c3
     clear c3
     by_cases c4:x8_1<(l0.length:Int)
     ·rw[if_pos c4]at H
      have c4b0:decide (x8_1<(l0.length:Int))=true:=decide_eq_true c4
      clear c4
      replace H:=Option.bind_eq_some_iff.mp H
      obtain⟨t448,A50,H⟩:=H
      replace H:(Qbv.l0 k1 t448 l0 (l0.length:Int) (wrap64 (x8_1+1)))=some r:=H
      have A5:=QA A50
      clear A50
      have H':=QA H
      clear H
      have p446:0≤(x8_1:Int):=of_decide_eq_true qq_4
      have q446:x8_1<(l0.length:Int):=of_decide_eq_true qq_4
      obtain⟨ad446,e446,hx446_0,hx446_1⟩:=Qjk HR0.out x8_1 p446 q446
      cases e446
      replace hx446_0:=qq_h HB.out hx446_0
      replace hx446_1:=qq_h HB.out hx446_1
      replace p446:=eq_true p446
      replace q446:=eq_true q446
      go_wp2_with (first |((with_reducible refine Qfs (N:=5) rfl ?_);refine qq_e 5 #[.int .u64 0,.int .u32 0] 122 ?_;intro gb447 hg w6 hbox hb;have n0_:=QA (Kd.R_below (Kd.R_elderB qq_3 gb447 (Nat.le_of_eq hg.symm)) hb);have n1_:=QA (Qfh qq_b hb);have n2_:=QA (hbox);have n3_:=QA (qq_s hg:w.heap.size≤gb447);have n4_:=n3_;clear HO_3 HB;have HO_3:=n0_;have HB:=n1_;have BK447:=n2_;have GW447:=n3_;have GE447:=n4_;clear n0_ n1_ n2_ n3_ n4_ hb hbox hg;have hcz7_0:=qq_c (.int .u64 0) BK447.out 0 rfl;have hcz7_1:=qq_c (.int .u32 0) BK447.out 1 rfl;have hfz7_0:=Qdt BK447.out 0;have hfz7_1:=Qdt BK447.out 1;obtain⟨Ao8,co8,eo8⟩:=Kd.R_slice HO_3.out;subst eo8) |((with_reducible refine Qin (f:=110) rfl ?_);refine Qgp (some 14) rfl rfl Tryz.func110 qq_6 rfl #[.slice Ao8 x3_1.length co8,.agg #[.int .u64 ((Qjj l0 x8_1).f0),.int .u32 ((Qjj l0 x8_1).f1)]] rfl qq_1 ?_;(with_reducible refine(Qbu.calls k1 _ _ x3_1 ((Qjj l0 x8_1).f0) ((Qjj l0 x8_1).f1) t448 _ ?side1 ?side2 A5.out).mono ?_);(case side1=>refine(Kd.R_reads' (e:=122) (base:=w.heap.size) (ok:=fun k_=>(True∧k_≠gb447)) (n:=x3_1.length) (c:=co8) ?_).2.2;exact qq_10);(case side2=>exact(Kd.R_reads' HO_3.out).2.1);rintro e w9 ⟨v449,rfl,ho0,hb⟩;refine⟨_,rfl,?_⟩;have n0_:=QA (Kd.R_elder' qq_10 (Kd.R_base ho0) hb);have n1_:=QA (Kd.R_lower (Kd.R_newB (Kd.R_new' ho0 (Kd.R_lt qq_10)) (g:=gb447) (o:=.cells #[.int .u64 ((Qjj l0 x8_1).f0),.int .u32 ((Qjj l0 x8_1).f1)] 122 (0,0)) (by(with_reducible repeat(first|apply Qeg|apply Qef|apply Qee));refine Qfn (cs:=#[.int .u64 ((Qjj l0 x8_1).f0),.int .u32 0]) ?_ 1 _ rfl;(with_reducible repeat(first|apply Qeg|apply Qef|apply Qee));refine Qfn (cs:=#[.int .u64 0,.int .u32 0]) ?_ 0 _ rfl;(with_reducible repeat(first|apply Qeg|apply Qef|apply Qee));exact BK447.out)) (Qfg qq_b));have n2_:=QA (Qeh (g:=gb447) (o:=.cells #[.int .u64 ((Qjj l0 x8_1).f0),.int .u32 ((Qjj l0 x8_1).f1)] 122 (0,0)) (by(with_reducible repeat(first|apply Qeg|apply Qef|apply Qee));refine Qfn (cs:=#[.int .u64 ((Qjj l0 x8_1).f0),.int .u32 0]) ?_ 1 _ rfl;(with_reducible repeat(first|apply Qeg|apply Qef|apply Qee));refine Qfn (cs:=#[.int .u64 0,.int .u32 0]) ?_ 0 _ rfl;(with_reducible repeat(first|apply Qeg|apply Qef|apply Qee));exact BK447.out) hb);have n3_:=QA (Qfh qq_b hb);clear HO_3 BK447 HB;have HO_3:=n0_;have HO450:=n1_;have BK447:=n2_;have HB:=n3_;clear n0_ n1_ n2_ n3_;(try clear hb);(try clear hb2);(try clear hk);(try clear hi);(try clear ho0)))
      go_roundg k1
      case measure=>have:=HK1.out;omega
      case rel=>exact⟨(t448),(wrap64 (x8_1+1)),qq_5,H',⟨by have:=HK1.out;omega⟩,⟨by(with_reducible repeat(first|apply Kd.R_alloc|apply Kd.R_drewN|apply Kd.R_drew));exact Kd.R_mono HO450.out (fun _ hk=>trivial)⟩,⟨qq_b⟩⟩
     ·rw[if_neg c4]at H
      exact absurd H (by simp)
    ·rw[if_neg c3]at H
     exact absurd H (by simp)
   ·rw[if_neg c2]at H
    have c2b0:decide (x8_1<(l0.length:Int))=false:=decide_eq_false c2
    clear c2
    obtain rfl:=Option.some.inj H
    go_wp2
    go_ret
    exact⟨_,by first|rfl |(simp[Qis,Qit]<;>rfl) |(simp[*,Qis,Qit]<;>rfl),by(with_reducible repeat(first|apply Kd.R_alloc|apply Kd.R_drewN|apply Kd.R_drew));exact HO_3.out,qq_b⟩
end Go.Proofs.YtnnofopfbeklbaaGreat.C
end
