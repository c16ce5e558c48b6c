/- Merged texts. -/
import Derived.Test.YtnnofopfbeklbaaGreatMK02
set_option linter.unusedVariables false
set_option linter.unusedSimpArgs false
set_option maxHeartbeats 8000000
set_option maxRecDepth 100000
section
namespace Go.Proofs.YtnnofopfbeklbaaGreat.C
open Go.RowKit Go.Proofs.YtnnofopfbeklbaaGreatW.PrintWords Go.Proofs.YtnnofopfbeklbaaGreatW.PrintLast Go.Proofs.YtnnofopfbeklbaaGreatW.PrintMore
attribute [local go_sem] Qjm Qjn Qjo Qjp Qjq Qjr Qjs Qjt
def Qcj.l0:Nat→List Int→List (List (S39))→List (S39)→Int→Int→Option ((List (List (S39))))
 | 0,_,_,_,_,_=>none
 | k+1,x1,x5,x8,x9,x10=>if x10<x9 then(if 0≤x10 then(if x10<(x8.length:Int)then(if x10<(x1.length:Int)then(if(IntKind.u64.wrap ((x5.length:Int)))≤(rd x1 x10)then(if x5.length<5864062014805 then((some (x5++[[]]:List (List (S39)))).bind fun y500=>(if 0≤(rd x1 x10)then(if(rd x1 x10)<(y500.length:Int)then(if(Qkr y500 (rd x1 x10)).length<2932031007402 then(Qcj.l0 k x1 (y500.set ((rd x1 x10):Int).toNat ((Qkr y500 (rd x1 x10))++[(⟨(Qkk x8 x10).f0,(Qkk x8 x10).f1,(Qkk x8 x10).f2,(Qkk x8 x10).f3⟩:S39)])) x8 x9 (wrap64 (x10+1)))else(none))else(none))else(none)))else(none))else(if 0≤(rd x1 x10)then(if(rd x1 x10)<(x5.length:Int)then(if(Qkr x5 (rd x1 x10)).length<2932031007402 then(Qcj.l0 k x1 (x5.set ((rd x1 x10):Int).toNat ((Qkr x5 (rd x1 x10))++[(⟨(Qkk x8 x10).f0,(Qkk x8 x10).f1,(Qkk x8 x10).f2,(Qkk x8 x10).f3⟩:S39)])) x8 x9 (wrap64 (x10+1)))else(none))else(none))else(none)))else(none))else(none))else(none))else(some x5)
def Qcj.f(k:Nat)(l0:List (S39))(l1:List Int):Option ((List (List (S39)))):=Qcj.l0 k l1 ([]:List (List (S39))) l0 (l0.length:Int) 0
def Qcj.T7:Bool × List (List Nat × List Nat):=(true,[([],[]),([],[]),([],[]),([1,2],[1,2]),([3],[3]),([],[]),([],[]),([],[]),([6,7],[6,7]),([8],[8]),([5,9],[5,9]),([10],[10]),([],[]),([12],[12]),([11,13],[11,13]),([0,4,0,1,2,3,4,5,6,7,8,9,10,11,12,13,14],[0,4]),([15,14,14,0,1,2,3,4,5,6,7,8,9,10,11,12,13,14],[14,15])])
def Qcj.B7:List Nat:=[0,0,0,6,14,0,0,0,192,448,992,2016,0,4096,16352,32767,65535]
theorem Qcj.tab7:rtab .any (Qjd Tryz.f74 7)=Qcj.T7:=by kernel_rfl
theorem Qcj.bits7:Qix Qcj.T7.2 Qcj.B7=true:=by kernel_rfl
theorem Qcj.calls (k:Nat) (A0:Option Addr) (c0:Nat) (l0:List (S39)) (A1:Option Addr) (c1:Nat) (l1:List Int) (r:List (List (S39))) (w:World) (hr0:Kd.C k39 w A0 l0.length l0) (hc0:l0.length≤c0) (hr1:Kd.C (Kd.int .u64) w A1 l1.length l1) (hc1:l1.length≤c1) (h:Qcj.f k l0 l1=some r) :
  Calls Tryz.prog 74 #[.slice A0 l0.length c0,.slice A1 l1.length c1] w fun e w'=>∃bq:Value,e=.returned (bq)∧Kd.S (Kd.slice 39 k39) 23 w' w.heap.size (fun _=>True) bq r∧Below w.heap.size w w':=by
 have hu39:=Tryz.underlying39;have br:=QA hr0;have b8:=QA hc0;clear hr0 hc0;have af:=QA hr1;have b9:=QA hc1;clear hr1 hc1;have HB:=QA (Below.refl w.heap.size w);have H:(Qcj.l0 k l1 ([]:List (List (S39))) l0 (l0.length:Int) 0)=some r:=h;clear h;have H':=QA H;clear H
 go_enter Tryz.func74,Tryz.ntmps74
 go_wp2
 go_loopg [5,10] k (fun kq v5 bR w'=>∃(x5_1:List (List (S39))) (x10_1:Int),bR=.int .i64 x10_1∧Aside0 (Qcj.l0 kq l1 x5_1 l0 (l0.length:Int) x10_1=some r)∧Aside0 (kq≤k)∧Aside0 (Kd.S (Kd.slice 39 k39) 23 w' w.heap.size (fun _=>True) v5 x5_1)∧Aside0 (Below w.heap.size w w'))
 case atStart=>exact⟨(([]:List (List (S39)))),(0),qq_8,H',⟨Nat.le_refl _⟩,⟨by first|exact Kd.S_nil _ _ _ _ _|exact Kd.N_nil _ _ _ _ _|exact Kd.V_nil _ _ _ _ _|exact Kd.Q_nil _ _ _ _ _|exact Kd.R_nil _ _ _ _ _⟩,⟨qq_b⟩⟩
 case round =>
  clear H'
  try clear c1
  obtain⟨x5_1,x10_1,rfl,HA,HK1,HO_5,HB⟩:=hrel
  cases gk with
  | zero=>exact absurd HA.out (by simp[Qcj.l0])
  | succ k1 =>
   have H:=HA.out;clear HA;simp only[Qcj.l0]at H
   by_cases c3:x10_1<(l0.length:Int)
   ·rw [if_pos c3]at H;have bx:=decide_eq_true c3;clear c3
    by_cases c4:0≤x10_1
    ·rw [if_pos c4]at H;have b1:=decide_eq_true c4;clear c4
     by_cases c5:x10_1<(l0.length:Int)
     ·rw [if_pos c5]at H;have b2:=decide_eq_true c5;clear c5
      by_cases c6:x10_1<(l1.length:Int)
      ·rw [if_pos c6]at H;have b3:=decide_eq_true c6;clear c6
       by_cases c7:(IntKind.u64.wrap ((x5_1.length:Int)))≤(rd l1 x10_1)
       ·rw [if_pos c7]at H;have bz:=decide_eq_true c7;clear c7
        by_cases c8:x5_1.length<5864062014805
        ·rw [if_pos c8]at H;have bA:=QA c8;clear c8;obtain⟨y500,O⟩:∃y_:List (List (S39)),y_=(x5_1++[[]]):=⟨_,rfl⟩;replace H:(if 0≤(rd l1 x10_1)then(if(rd l1 x10_1)<(y500.length:Int)then(if(Qkr y500 (rd l1 x10_1)).length<2932031007402 then(Qcj.l0 k1 l1 (y500.set ((rd l1 x10_1):Int).toNat ((Qkr y500 (rd l1 x10_1))++[(⟨(Qkk l0 x10_1).f0,(Qkk l0 x10_1).f1,(Qkk l0 x10_1).f2,(Qkk l0 x10_1).f3⟩:S39)])) l0 (l0.length:Int) (wrap64 (x10_1+1)))else(none))else(none))else(none))=some r:=by first |(rw[O];with_reducible exact H) |(have q:=(Option.bind_some _ _).symm.trans H;rw[O];with_reducible exact q) |(have q:=(Option.bind_some _ _).symm.trans H;with_reducible exact q)|with_reducible exact H |(rw[O];exact H)|exact H
         have bc:=QA O;clear O
         by_cases c9:0≤(rd l1 x10_1)
         ·rw [if_pos c9]at H;have b4:=decide_eq_true c9;clear c9
          by_cases c10:(rd l1 x10_1)<(y500.length:Int)
          ·rw[if_pos c10]at H;have bU:=decide_eq_true c10;clear c10
           by_cases aD:(Qkr y500 (rd l1 x10_1)).length<2932031007402
           ·rw[if_pos aD]at H;have bd:=QA aD;clear aD;obtain⟨ag,P⟩:∃y_:List (S39),y_=((Qkr y500 (rd l1 x10_1))++[(⟨(Qkk l0 x10_1).f0,(Qkk l0 x10_1).f1,(Qkk l0 x10_1).f2,(Qkk l0 x10_1).f3⟩:S39)]):=⟨_,rfl⟩;replace H:(Qcj.l0 k1 l1 (y500.set ((rd l1 x10_1):Int).toNat ag) l0 (l0.length:Int) (wrap64 (x10_1+1)))=some r:=by first |(rw[P];with_reducible exact H) |(have q:=(Option.bind_some _ _).symm.trans H;rw[P];with_reducible exact q) |(have q:=(Option.bind_some _ _).symm.trans H;with_reducible exact q)|with_reducible exact H |(rw[P];exact H)|exact H
            have be:=QA P;clear P;obtain⟨aV,T⟩:∃y_:List (List (S39)),y_=(y500.set ((rd l1 x10_1):Int).toNat ag):=⟨_,rfl⟩;replace H:(Qcj.l0 k1 l1 aV l0 (l0.length:Int) (wrap64 (x10_1+1)))=some r:=by first |(rw[T];with_reducible exact H) |(have q:=(Option.bind_some _ _).symm.trans H;rw[T];with_reducible exact q) |(have q:=(Option.bind_some _ _).symm.trans H;with_reducible exact q)|with_reducible exact H |(rw[T];exact H)|exact H
            have bf:=QA T;clear T;have H':=QA H;clear H;have I:0≤(x10_1:Int):=of_decide_eq_true qq_5;have J:x10_1<(l0.length:Int):=of_decide_eq_true qq_5;obtain⟨bg,aq,t,u,x,y⟩:=Qkl br.out x10_1 I J
            cases aq
            replace t:=qq_h HB.out t;replace u:=qq_h HB.out u;replace x:=qq_h HB.out x;replace y:=qq_h HB.out y;replace I:=eq_true I;replace J:=eq_true J
            try go_wp2_with (first |((with_reducible refine Qgv (N:=7) rfl ?_);refine qq_e 7 #[.bool false,.int .u64 0,.string (⟨#[]⟩:ByteArray),.string (⟨#[]⟩:ByteArray)] 39 ?_;intro a hg ca hbox hb;have n_:=qn5 (Kd.S_below (Kd.S_elderB (by(with_reducible repeat(first|apply Kd.S_alloc|apply Kd.S_drewN|apply Kd.S_drew));exact HO_5.out) a (Nat.le_of_eq hg.symm)) hb) (Qgk qq_b hb) (hbox) (qq_s hg:w.heap.size≤a) (qq_s hg:w.heap.size≤a);clear HO_5 HB;obtain⟨HO_5,HB,c,s,bh⟩:=n_;clear hb hbox hg;obtain⟨bH,bI,bJ,bK⟩:=qc4 c.out;have bV:=Qeq c.out;obtain⟨Ao15,co15,eo15⟩:=Kd.S_slice HO_5.out;subst eo15;have L:0≤(x10_1:Int):=of_decide_eq_true qq_5;have M:x10_1<(l1.length:Int):=of_decide_eq_true qq_5;obtain⟨l,ar,hx499_0⟩:=Kd.at_int af.out x10_1 L M;cases ar;have X:l.block≠a:=Nat.ne_of_lt (Nat.lt_of_lt_of_le qq_16 s.out);have Y:l.block≠a:=Nat.ne_of_lt (Nat.lt_of_lt_of_le qq_16 s.out);have Z:l.block≠a:=Nat.ne_of_lt (Nat.lt_of_lt_of_le qq_16 s.out);have aa:l.block≠a:=Nat.ne_of_lt (Nat.lt_of_lt_of_le qq_16 s.out);replace hx499_0:=qq_h HB.out hx499_0;replace hx499_0:=(Qgp (p:=⟨a,0,none⟩) qq_4 (.bool ((Qkk l0 x10_1).f0))).trans hx499_0;replace hx499_0:=(Qgp (p:=⟨a,1,none⟩) qq_4 (.int .u64 ((Qkk l0 x10_1).f1))).trans hx499_0;replace hx499_0:=(Qgp (p:=⟨a,2,none⟩) qq_4 (.string ((Qkk l0 x10_1).f2))).trans hx499_0;replace hx499_0:=(Qgp (p:=⟨a,3,none⟩) qq_4 (.string ((Qkk l0 x10_1).f3))).trans hx499_0;clear X Y Z aa;replace L:=eq_true L;replace M:=eq_true M) |((with_reducible refine Qjv (b:=.append) (xs:=#[.tmp 23,.tmp 24]) rfl ?_);at_builtin;refine Kd.S_append (Kd.slice 39 k39) (w0:=w) w.heap.size rfl (.tmp 23) (.tmp 24) 136 23 (.slice none 0 0) 24 rfl Tryz.underlying136 info23 rfl (by decide) (by omega) (.slice Ao15 x5_1.length co15) x5_1 [] [.slice none 0 0] (fun k_=>k_≠a) (fun _=>False) rfl qq_14 ?aP (fun _ hk=>hk.elim) ?aF ?aO ?aB ?aS ?aL ?_;(case aP=>exact Kd.M_row (Kd.R_nil _ _ _ _ _));(case aB=>exact qq_b);(case aF=>exact(fun k_ hk=>Kd.freshB (g:=a) (o:=.cells #[.bool ((Qkk l0 x10_1).f0),.int .u64 ((Qkk l0 x10_1).f1),.string ((Qkk l0 x10_1).f2),.string ((Qkk l0 x10_1).f3)] 39 (0,0)) qq_x k_ hk));(case aO=>exact(by(with_reducible repeat(first|apply Kd.S_alloc|apply Kd.S_drewN|apply Kd.S_drew));exact Kd.S_mono (Kd.S_far (p:=⟨a,3,none⟩) (Kd.S_far (p:=⟨a,2,none⟩) (Kd.S_far (p:=⟨a,1,none⟩) (Kd.S_far (p:=⟨a,0,none⟩) (Kd.S_mono HO_5.out (fun k_ hk=>(⟨hk,hk.2⟩:_∧k_≠a))) (fun _ hk=>hk.2) (.bool ((Qkk l0 x10_1).f0))) (fun _ hk=>hk.2) (.int .u64 ((Qkk l0 x10_1).f1))) (fun _ hk=>hk.2) (.string ((Qkk l0 x10_1).f2))) (fun _ hk=>hk.2) (.string ((Qkk l0 x10_1).f3))) (fun k_ hk=>⟨hk.1.2,fun e_=>e_⟩)));(case aS=>exact(Qgj qq_b));(case aL=>have:=bA.out;omega);intro b5 bS ho hb hg hat;rw[← bc.out]at ho;have n_:=qn3 (Qer (g:=a) (o:=.cells #[.bool ((Qkk l0 x10_1).f0),.int .u64 ((Qkk l0 x10_1).f1),.string ((Qkk l0 x10_1).f2),.string ((Qkk l0 x10_1).f3)] 39 (0,0)) qq_x hg (Kd.S_ne HO_5.out c.out (by decide))) (hb) (ho);clear c HB HO_5;obtain⟨c,HB,m⟩:=n_;clear ho hb hg hat))
            have n_:=qn3 (Kd.S_drew m.out) (Qfc c.out) (Qgr HB.out);clear m c HB;obtain⟨m,c,HB⟩:=n_;have au:0≤(x10_1:Int):=of_decide_eq_true qq_5;have av:x10_1<(l1.length:Int):=of_decide_eq_true qq_5;obtain⟨bi,bB,B⟩:=Kd.at_int af.out x10_1 au av;have hw503_0:=B;obtain rfl:l=bi:=(by injection bB);replace B:=qq_h HB.out B;replace au:=eq_true au;replace av:=eq_true av;have aw:0≤(x10_1:Int):=of_decide_eq_true qq_5;have ax:x10_1<(l1.length:Int):=of_decide_eq_true qq_5;obtain⟨bj,bC,D⟩:=Kd.at_int af.out x10_1 aw ax;have hw504_0:=D;obtain rfl:l=bj:=(by injection bC);replace D:=qq_h HB.out D;replace aw:=eq_true aw;replace ax:=eq_true ax;obtain⟨Ao18,co18,eo18⟩:=Kd.S_slice m.out
            (first|subst eo18 |(injection eo18 with f1_ f2_ f3_;have f4_:=f1_.symm;have f5_:=f3_.symm;clear f1_ f2_ f3_;subst f4_;subst f5_))
            have ah:0≤((rd l1 x10_1):Int):=of_decide_eq_true qq_5;have ai:(rd l1 x10_1)<(y500.length:Int):=of_decide_eq_true qq_5;obtain⟨bW,ab,ac,bD,z,hl505_0,hi505_0⟩:=Qks (Kd.S_reads' m.out).2.2 (rd l1 x10_1) ah ai
            cases bD
            obtain⟨ce505,hce505,hMe505,am⟩:=Kd.S_get m.out [] (rd l1 x10_1) ah (by first|exact ai|exact of_decide_eq_true qq_5 |(have e_:=(Kd.S_reads' m.out).1;omega));obtain⟨ve505_0,rfl,ge505_0⟩:=hMe505;have hv505_0:=am 0 _ rfl;rw[Nat.add_zero,show((Kd.slice 39 k39)).sz=1 from rfl,Nat.mul_one]at hv505_0;replace hv505_0:=Option.some.inj (hv505_0.symm.trans z);rw[hv505_0]at ge505_0;have HL505_0:=QA (show Kd.R k39 39 _ _ _ _ (Qkr y500 (rd l1 x10_1)) from ge505_0);clear hv505_0 ge505_0;have HX505_0:=QA z;clear am hce505;have aT:=QA hi505_0;have bL:=QA hl505_0;clear hi505_0 hl505_0;replace ah:=eq_true ah;replace ai:=eq_true ai;obtain⟨go19,co19,eo19,aW,gl19,cl19,HG19⟩:=Kd.S_form m.out (by have h_:((rd l1 x10_1):Int)<((y500.length:Int):Int):=of_decide_eq_true qq_5;have bT:0≤((rd l1 x10_1):Int):=(of_decide_eq_true qq_5);omega)
            (first|cases eo19 |(injection eo19 with ea_ en_ ec_;(first|subst ea_ |(injection ea_ with ea_;subst ea_));subst ec_;clear en_))
            have GB19:=QA aW;have GG19:=QA HG19;clear aW gl19 HG19
            (first|simp only[Qdw]at z|skip)
            obtain⟨oki19,ce19,hcl19,hM19,aE,_,_,hH19⟩:=Kd.S_elem m.out [] ((rd l1 x10_1):Int) (of_decide_eq_true qq_5) (by have h_:((rd l1 x10_1):Int)<((y500.length:Int):Int):=of_decide_eq_true qq_5;first|exact h_ |(have e_:=(Kd.S_reads' m.out).1;omega)|simpa using h_);obtain⟨ve19_0,rfl,ge19_0⟩:=hM19;have hv19:=aE 0 _ rfl;have hX19:=HX505_0.out
            (try simp only[Qdw]at hX19)
            (try simp only[Nat.add_zero]at hv19)
            (try rw[show((Kd.slice 39 k39)).sz=1 from rfl,Nat.mul_one]at hv19)
            replace hv19:=Option.some.inj (hv19.symm.trans hX19);subst hv19;clear hX19 aE hcl19;have UU19:=QA (show Kd.R k39 39 _ w.heap.size oki19 (.slice ab (Qkr y500 (rd l1 x10_1)).length ac) (Qkr y500 (rd l1 x10_1)) from ge19_0);have HH19:=QA hH19;have HN19:=QA (Kd.S_reads' m.out).1;clear hH19 ge19_0;refine Qhk (n:=17) (S:=fun w'=>w'.cell? ⟨a,0,none⟩=some (.bool ((Qkk l0 x10_1).f0))∧w'.cell? ⟨a,1,none⟩=some (.int .u64 ((Qkk l0 x10_1).f1))∧w'.cell? ⟨a,2,none⟩=some (.string ((Qkk l0 x10_1).f2))∧w'.cell? ⟨a,3,none⟩=some (.string ((Qkk l0 x10_1).f3))∧w'.cell? (l.add (x10_1).toNat)=some (.int .u64 (rd l1 x10_1))∧w'.cell? (l.add (x10_1).toNat)=some (.int .u64 (rd l1 x10_1))∧w'.cell? ⟨go19,((rd l1 x10_1)).toNat,none⟩=some (.slice ab (Qkr y500 (rd l1 x10_1)).length ac)) (ds:=[16]) (bm 17 0) qq_6 rfl rfl ⟨(Qep c.out 0).trans rfl,(Qep c.out 1).trans rfl,(Qep c.out 2).trans rfl,(Qep c.out 3).trans rfl,((HB.out.cell (World.block_lt_of_cell? w _ hw503_0)).trans hw503_0),((HB.out.cell (World.block_lt_of_cell? w _ hw504_0)).trans hw504_0),z⟩ (fun d=>?_);refine Qjb Qcj.tab7 Qcj.bits7 (fun HT_ HW_=>?_);generalize bS.drew=w17 at m c HB GG19 HH19 HL505_0 aT HX505_0 UU19 B D z d ⊢;refine pz_ (i:=0) (N:=some 26) (bm 17 1) (Qit HT_.out qq_6) ?_;refine pz_ (i:=1) (N:=some 27) (bm 17 3) (Qit HT_.out qq_6) ?_;refine pz_ (i:=2) (N:=some 28) (bm 17 7) (Qit HT_.out qq_6) ?_;refine pz_ (i:=3) (N:=some 29) (bm 17 15) (Qit HT_.out qq_6) ?_;refine pz_ (i:=5) (N:=some 31) (bm 17 47) (Qit HT_.out qq_6) ?_;refine pz_ (i:=6) (N:=some 32) (bm 17 111) (Qit HT_.out qq_6) ?_;refine pz_ (i:=7) (N:=some 33) (bm 17 239) (Qit HT_.out qq_6) ?_;refine pz_ (i:=8) (N:=some 34) (bm 17 495) (Qit HT_.out qq_6) ?_;refine tz_ (i:=4) (N:=some 30) (bm 17 511) (Qja HT_.out HW_.out qq_6) d ?_;refine tz_ (i:=9) (N:=some 35) (bm 17 1023) (Qja HT_.out HW_.out qq_6) d ?_;refine pz_ (i:=10) (N:=some 36) (bm 17 2047) (Qit HT_.out qq_6) ?_;refine tz_ (i:=11) (N:=some 37) (bm 17 4095) (Qja HT_.out HW_.out qq_6) d ?_;refine tz_ (i:=12) (N:=some 38) (bm 17 8191) (Qja HT_.out HW_.out qq_6) d ?_;refine one_ (i:=13) (N:=some 39) (bm 17 16383) rfl rfl (Qiu HT_.out qq_6) (by decide) (fun K hK=>?_);refine Qhv (w1:=?_) (v:=?_) (by rfl) rfl ?_ ?_;rotate_left 2
            ·go_simp
             constructor
             ·rfl
             ·rfl
            refine hK.out _ _ ⟨(Qep (Qfb c.out _) 0).trans rfl,(Qep (Qfb c.out _) 1).trans rfl,(Qep (Qfb c.out _) 2).trans rfl,(Qep (Qfb c.out _) 3).trans rfl,(World.cell?_alloc_lt _ _ _ (World.block_lt_of_cell? _ _ (((HB.out.cell (World.block_lt_of_cell? w _ hw503_0)).trans hw503_0)))).trans (((HB.out.cell (World.block_lt_of_cell? w _ hw503_0)).trans hw503_0)),(World.cell?_alloc_lt _ _ _ (World.block_lt_of_cell? _ _ (((HB.out.cell (World.block_lt_of_cell? w _ hw504_0)).trans hw504_0)))).trans (((HB.out.cell (World.block_lt_of_cell? w _ hw504_0)).trans hw504_0)),(World.cell?_alloc_lt _ _ _ (World.block_lt_of_cell? _ _ (d.2.2.2.2.2.2))).trans (d.2.2.2.2.2.2)⟩ (fun d=>?_);clear hK K;refine nzp_ 39 ?_;refine one_ (i:=14) (N:=some 40) (bm 17 32767) rfl rfl (Qiu HT_.out qq_6) (by decide) (fun K hK=>?_);refine Kd.R_append_step k39 (w0:=w) w.heap.size (by rfl) (.tmp 37) (.tmp 39) 23 39 (.agg #[(.bool false),(.int .u64 0),(.string ⟨#[]⟩),(.string ⟨#[]⟩)]) 48 rfl Tryz.underlying23 Qkg rfl (by decide) (by omega) (.slice ab (Qkr y500 (rd l1 x10_1)).length ac) (Qkr y500 (rd l1 x10_1)) (⟨(Qkk l0 x10_1).f0,(Qkk l0 x10_1).f1,(Qkk l0 x10_1).f2,(Qkk l0 x10_1).f3⟩:S39) [.bool ((Qkk l0 x10_1).f0),.int .u64 ((Qkk l0 x10_1).f1),.string ((Qkk l0 x10_1).f2),.string ((Qkk l0 x10_1).f3)] (fun k_=>oki19 k_∨((fun k_=>k_≠a)) k_∧w17.heap.size≤k_) (fun _=>False) rfl rfl ?aP (fun _ hk=>hk.elim) ?aF ?aO ?aB ?aS ?aL ?_
            (case aP=>exact Qkj _ _ _ (⟨(Qkk l0 x10_1).f0,(Qkk l0 x10_1).f1,(Qkk l0 x10_1).f2,(Qkk l0 x10_1).f3⟩:S39))
            (case aB=>exact qq_b)
            (case aF=>exact(fun k_ hk=>.inr ⟨Kd.freshB (g:=a) (o:=.cells #[.bool ((Qkk l0 x10_1).f0),.int .u64 ((Qkk l0 x10_1).f1),.string ((Qkk l0 x10_1).f2),.string ((Qkk l0 x10_1).f3)] 39 (0,0)) qq_0 k_ hk,hk⟩))
            (case aO=>exact(by(with_reducible repeat(first|apply Kd.R_alloc|apply Kd.R_drewN|apply Kd.R_drew));exact Kd.R_mono UU19.out (fun _ hk=>.inl hk)))
            (case aS=>exact(Qgj qq_b))
            (case aL=>have:=bd.out;omega)
            intro b6 cb ho hb hg hat
            (first|have HS6_:=Qka hg (d.2.2.2.2.2.2) (by first |(rw[Qgo];exact(fun e_=>((HL505_0.out.1 _ e_.symm).2) rfl)) |(show some (Addr.add _ _).block≠_;rw[Qgo];exact(fun e_=>((HL505_0.out.1 _ e_.symm).2) rfl))|exact(fun e_=>((HL505_0.out.1 _ e_.symm).2) rfl))|have HS6_:=Qka hg (Qjz (d.2.2.2.2.2.2) (by first |(rw[Qgo];exact Kd.S_lt m.out _ rfl) |(show(Addr.add _ _).block<_;rw[Qgo];exact Kd.S_lt m.out _ rfl)|exact Kd.S_lt m.out _ rfl)) (by first |(rw[Qgo];exact(fun e_=>((HL505_0.out.1 _ e_.symm).2) rfl)) |(show some (Addr.add _ _).block≠_;rw[Qgo];exact(fun e_=>((HL505_0.out.1 _ e_.symm).2) rfl))|exact(fun e_=>((HL505_0.out.1 _ e_.symm).2) rfl)))
            rw[← be.out]at ho;have n_:=qn4 (Qer (g:=a) (o:=.cells #[.bool ((Qkk l0 x10_1).f0),.int .u64 ((Qkk l0 x10_1).f1),.string ((Qkk l0 x10_1).f2),.string ((Qkk l0 x10_1).f3)] 39 (0,0)) qq_0 hg (Kd.R_away HL505_0.out (fun _ hk=>hk.1))) (hb) (Kd.H_grown (Kd.H_widen (by repeat(first|exact HH19.out|refine Kd.H_alloc ?_ _|refine Kd.H_drewN ?_ _|refine Kd.H_drew ?_))) hg (fun k_ e_=>.inl (UU19.out.1 k_ e_))) (ho);clear c HB HH19 m UU19 HL505_0;obtain⟨c,HB,HH19,aG⟩:=n_;clear ho hb hg hat;have bs:0≤((rd l1 x10_1):Int):=of_decide_eq_true qq_5;have bu:((rd l1 x10_1):Int)<((y500.length:Int):Int):=of_decide_eq_true qq_5;replace bs:=eq_true bs;replace bu:=eq_true bu;obtain⟨Ao23,co23,eo23⟩:=Kd.R_slice aG.out
            (first|subst eo23 |(injection eo23 with f1_ f2_ f3_;have f4_:=f1_.symm;have f5_:=f3_.symm;clear f1_ f2_ f3_;subst f4_;subst f5_))
            obtain⟨_,_,hraw21,_,_,aH,_⟩:=Kd.H_raw HH19.out (of_decide_eq_true qq_5) qq_26;obtain⟨_,hfr21⟩:=Kd.H_at HH19.out (of_decide_eq_true qq_5) qq_26;have an:=aH 0 _ rfl;have hf21_0:=hfr21 0
            (try simp only[Nat.add_zero]at an hf21_0)
            (try rw[show((Kd.slice 39 k39)).sz=1 from rfl,Nat.mul_one]at an)
            (try rw[show((Kd.slice 39 k39)).sz=1 from rfl,Nat.mul_one]at hf21_0)
            have HP21:=Kd.S_seg0 HH19.out (of_decide_eq_true qq_5) qq_26 (seg:=[.slice Ao23 ag.length co23]) (j:=0) (show 1≤1 from by decide) (x':=ag) (Kd.M_row aG.out) (fun _ hk=>hk)
            (try simp only[show((Kd.slice 39 k39)).sz=1 from rfl,Nat.mul_one,Nat.add_zero]at HP21)
            clear aH hfr21;have HNB498_go19:=QA (show a≠go19 from by have h_:=Kd.R_ne hraw21 c.out (by decide);intro e_;exact h_ (by rw[e_];rfl));have HS21:=HP21.1;rw[← bf.out]at HS21;have HQ21:=QA HS21;obtain⟨_,hgg21⟩:=Kd.R_typed hraw21 go19 rfl;have GG21_:=QA hgg21;clear HP21 HS21 hgg21;refine hK.out _ _ ⟨(Qep c.out 0).trans rfl,(Qep c.out 1).trans rfl,(Qep c.out 2).trans rfl,(Qep c.out 3).trans rfl,((HB.out.cell (World.block_lt_of_cell? w _ hw503_0)).trans hw503_0),((HB.out.cell (World.block_lt_of_cell? w _ hw504_0)).trans hw504_0),HS6_⟩ (fun d=>?_);clear hK K;refine nzp_ 40 ?_;refine pz_ (i:=15) (N:=some 41) (bm 17 65535) (Qit HT_.out qq_6) ?_;refine last_ (i:=16) (N:=none) (bm 17 131071) rfl rfl (Qiu HT_.out qq_6) (by decide) (fun K hK=>?_);refine Qhw (w1:=?_) (by rfl) rfl ?_ ?_;rotate_left
            ·go_simp;rfl
            refine hK.out _ _ ?_;clear hK K;refine Qhn (Qiw HT_.out qq_6) ?_
            try go_wp2
            go_roundg k1
            case measure=>have:=HK1.out;omega
            case rel=>exact⟨(aV),(wrap64 (x10_1+1)),qq_8,H',⟨by have:=HK1.out;omega⟩,⟨by(with_reducible repeat(first|apply Kd.S_alloc|apply Kd.S_drewN|apply Kd.S_drew));exact Kd.S_mono HQ21.out (fun _ hk=>trivial)⟩,⟨qq_b⟩⟩
           ·rw[if_neg aD]at H;exact absurd H (by simp)
          ·rw[if_neg c10]at H;exact absurd H (by simp)
         ·rw[if_neg c9]at H;exact absurd H (by simp)
        ·rw[if_neg c8]at H;exact absurd H (by simp)
       ·rw [if_neg c7]at H;have bz:=decide_eq_false c7;clear c7
        by_cases aI:0≤(rd l1 x10_1)
        ·rw [if_pos aI]at H;have bX:=decide_eq_true aI;clear aI
         by_cases aJ:(rd l1 x10_1)<(x5_1.length:Int)
         ·rw[if_pos aJ]at H;have bY:=decide_eq_true aJ;clear aJ
          by_cases aK:(Qkr x5_1 (rd l1 x10_1)).length<2932031007402
          ·rw[if_pos aK]at H;have bk:=QA aK;clear aK;obtain⟨aj,U⟩:∃y_:List (S39),y_=((Qkr x5_1 (rd l1 x10_1))++[(⟨(Qkk l0 x10_1).f0,(Qkk l0 x10_1).f1,(Qkk l0 x10_1).f2,(Qkk l0 x10_1).f3⟩:S39)]):=⟨_,rfl⟩;replace H:(Qcj.l0 k1 l1 (x5_1.set ((rd l1 x10_1):Int).toNat aj) l0 (l0.length:Int) (wrap64 (x10_1+1)))=some r:=by first |(rw[U];with_reducible exact H) |(have q:=(Option.bind_some _ _).symm.trans H;rw[U];with_reducible exact q) |(have q:=(Option.bind_some _ _).symm.trans H;with_reducible exact q)|with_reducible exact H |(rw[U];exact H)|exact H
           have bl:=QA U;clear U;obtain⟨aX,W⟩:∃y_:List (List (S39)),y_=(x5_1.set ((rd l1 x10_1):Int).toNat aj):=⟨_,rfl⟩;replace H:(Qcj.l0 k1 l1 aX l0 (l0.length:Int) (wrap64 (x10_1+1)))=some r:=by first |(rw[W];with_reducible exact H) |(have q:=(Option.bind_some _ _).symm.trans H;rw[W];with_reducible exact q) |(have q:=(Option.bind_some _ _).symm.trans H;with_reducible exact q)|with_reducible exact H |(rw[W];exact H)|exact H
           have bn:=QA W;clear W;have H':=QA H;clear H;have I:0≤(x10_1:Int):=of_decide_eq_true qq_5;have J:x10_1<(l0.length:Int):=of_decide_eq_true qq_5;obtain⟨bg,aq,t,u,x,y⟩:=Qkl br.out x10_1 I J
           cases aq
           replace t:=qq_h HB.out t;replace u:=qq_h HB.out u;replace x:=qq_h HB.out x;replace y:=qq_h HB.out y;replace I:=eq_true I;replace J:=eq_true J
           try go_wp2_with (first |((with_reducible refine Qgv (N:=7) rfl ?_);refine qq_e 7 #[.bool false,.int .u64 0,.string (⟨#[]⟩:ByteArray),.string (⟨#[]⟩:ByteArray)] 39 ?_;intro a hg aM hbox hb;have n_:=qn5 (Kd.S_below (Kd.S_elderB (by(with_reducible repeat(first|apply Kd.S_alloc|apply Kd.S_drewN|apply Kd.S_drew));exact HO_5.out) a (Nat.le_of_eq hg.symm)) hb) (Qgk qq_b hb) (hbox) (qq_s hg:w.heap.size≤a) (qq_s hg:w.heap.size≤a);clear HO_5 HB;obtain⟨HO_5,HB,c,s,bh⟩:=n_;clear hb hbox hg;obtain⟨bM,bN,bO,bP⟩:=qc4 c.out;have bZ:=Qeq c.out;obtain⟨Ao30,co30,eo30⟩:=Kd.S_slice HO_5.out;subst eo30;have L:0≤(x10_1:Int):=of_decide_eq_true qq_5;have M:x10_1<(l1.length:Int):=of_decide_eq_true qq_5;obtain⟨l,ar,hx499_0⟩:=Kd.at_int af.out x10_1 L M;cases ar;have X:l.block≠a:=Nat.ne_of_lt (Nat.lt_of_lt_of_le qq_16 s.out);have Y:l.block≠a:=Nat.ne_of_lt (Nat.lt_of_lt_of_le qq_16 s.out);have Z:l.block≠a:=Nat.ne_of_lt (Nat.lt_of_lt_of_le qq_16 s.out);have aa:l.block≠a:=Nat.ne_of_lt (Nat.lt_of_lt_of_le qq_16 s.out);replace hx499_0:=qq_h HB.out hx499_0;replace hx499_0:=(Qgp (p:=⟨a,0,none⟩) qq_4 (.bool ((Qkk l0 x10_1).f0))).trans hx499_0;replace hx499_0:=(Qgp (p:=⟨a,1,none⟩) qq_4 (.int .u64 ((Qkk l0 x10_1).f1))).trans hx499_0;replace hx499_0:=(Qgp (p:=⟨a,2,none⟩) qq_4 (.string ((Qkk l0 x10_1).f2))).trans hx499_0;replace hx499_0:=(Qgp (p:=⟨a,3,none⟩) qq_4 (.string ((Qkk l0 x10_1).f3))).trans hx499_0;clear X Y Z aa;replace L:=eq_true L;replace M:=eq_true M))
           have aY:Aside0 (Kd.S (Kd.slice 39 k39) 23 ((((aM.setCell ⟨a,0,none⟩ (.bool ((Qkk l0 x10_1).f0))).setCell ⟨a,1,none⟩ (.int .u64 ((Qkk l0 x10_1).f1))).setCell ⟨a,2,none⟩ (.string ((Qkk l0 x10_1).f2))).setCell ⟨a,3,none⟩ (.string ((Qkk l0 x10_1).f3))) w.heap.size (fun k_=>k_≠a) (.slice Ao30 x5_1.length co30) x5_1):=⟨by(with_reducible repeat(first|apply Kd.S_alloc|apply Kd.S_drewN|apply Kd.S_drew));exact Kd.S_mono (Kd.S_far (p:=⟨a,3,none⟩) (Kd.S_far (p:=⟨a,2,none⟩) (Kd.S_far (p:=⟨a,1,none⟩) (Kd.S_far (p:=⟨a,0,none⟩) (Kd.S_mono HO_5.out (fun k_ hk=>(⟨hk,hk.2⟩:_∧k_≠a))) (fun _ hk=>hk.2) (.bool ((Qkk l0 x10_1).f0))) (fun _ hk=>hk.2) (.int .u64 ((Qkk l0 x10_1).f1))) (fun _ hk=>hk.2) (.string ((Qkk l0 x10_1).f2))) (fun _ hk=>hk.2) (.string ((Qkk l0 x10_1).f3))) (fun _ hk=>hk.1.2)⟩;have aZ:Aside0 (((((aM.setCell ⟨a,0,none⟩ (.bool ((Qkk l0 x10_1).f0))).setCell ⟨a,1,none⟩ (.int .u64 ((Qkk l0 x10_1).f1))).setCell ⟨a,2,none⟩ (.string ((Qkk l0 x10_1).f2))).setCell ⟨a,3,none⟩ (.string ((Qkk l0 x10_1).f3))).heap[a]? = some (.cells #[.bool ((Qkk l0 x10_1).f0),.int .u64 ((Qkk l0 x10_1).f1),.string ((Qkk l0 x10_1).f2),.string ((Qkk l0 x10_1).f3)] 39 (0,0))):=⟨by(with_reducible repeat(first|apply Qfd|apply Qfc|apply Qfb));refine Qgq (cs:=#[.bool ((Qkk l0 x10_1).f0),.int .u64 ((Qkk l0 x10_1).f1),.string ((Qkk l0 x10_1).f2),.string (⟨#[]⟩:ByteArray)]) ?_ 3 _ rfl;(with_reducible repeat(first|apply Qfd|apply Qfc|apply Qfb));refine Qgq (cs:=#[.bool ((Qkk l0 x10_1).f0),.int .u64 ((Qkk l0 x10_1).f1),.string (⟨#[]⟩:ByteArray),.string (⟨#[]⟩:ByteArray)]) ?_ 2 _ rfl;(with_reducible repeat(first|apply Qfd|apply Qfc|apply Qfb));refine Qgq (cs:=#[.bool ((Qkk l0 x10_1).f0),.int .u64 0,.string (⟨#[]⟩:ByteArray),.string (⟨#[]⟩:ByteArray)]) ?_ 1 _ rfl;(with_reducible repeat(first|apply Qfd|apply Qfc|apply Qfb));refine Qgq (cs:=#[.bool false,.int .u64 0,.string (⟨#[]⟩:ByteArray),.string (⟨#[]⟩:ByteArray)]) ?_ 0 _ rfl;(with_reducible repeat(first|apply Qfd|apply Qfc|apply Qfb));exact c.out⟩;have ba:Aside0 (Below w.heap.size w ((((aM.setCell ⟨a,0,none⟩ (.bool ((Qkk l0 x10_1).f0))).setCell ⟨a,1,none⟩ (.int .u64 ((Qkk l0 x10_1).f1))).setCell ⟨a,2,none⟩ (.string ((Qkk l0 x10_1).f2))).setCell ⟨a,3,none⟩ (.string ((Qkk l0 x10_1).f3)))):=⟨qq_b⟩
           (try clear HO_5)
           (try clear c)
           (try clear HB)
           generalize ((((aM.setCell ⟨a,0,none⟩ (.bool ((Qkk l0 x10_1).f0))).setCell ⟨a,1,none⟩ (.int .u64 ((Qkk l0 x10_1).f1))).setCell ⟨a,2,none⟩ (.string ((Qkk l0 x10_1).f2))).setCell ⟨a,3,none⟩ (.string ((Qkk l0 x10_1).f3)))=w31 at aY aZ ba ⊢;have HO_5:=aY;have c:=aZ;have HB:=ba;clear aY aZ ba;have n_:=qn3 (Kd.S_drew HO_5.out) (Qfc c.out) (Qgr HB.out);clear HO_5 c HB;obtain⟨HO_5,c,HB⟩:=n_;have ay:0≤(x10_1:Int):=of_decide_eq_true qq_5;have az:x10_1<(l1.length:Int):=of_decide_eq_true qq_5;obtain⟨bo,bE,E⟩:=Kd.at_int af.out x10_1 ay az;have hw510_0:=E;obtain rfl:l=bo:=(by injection bE);replace E:=qq_h HB.out E;replace ay:=eq_true ay;replace az:=eq_true az;have aA:0≤(x10_1:Int):=of_decide_eq_true qq_5;have aC:x10_1<(l1.length:Int):=of_decide_eq_true qq_5;obtain⟨bp,bF,G⟩:=Kd.at_int af.out x10_1 aA aC;have hw511_0:=G;obtain rfl:l=bp:=(by injection bF);replace G:=qq_h HB.out G;replace aA:=eq_true aA;replace aC:=eq_true aC;have ak:0≤((rd l1 x10_1):Int):=of_decide_eq_true qq_5;have al:(rd l1 x10_1)<(x5_1.length:Int):=of_decide_eq_true qq_5;obtain⟨b0,ad,ae,bG,A,hl512_0,hi512_0⟩:=Qks (Kd.S_reads' HO_5.out).2.2 (rd l1 x10_1) ak al
           cases bG
           obtain⟨ce512,hce512,hMe512,ao⟩:=Kd.S_get HO_5.out [] (rd l1 x10_1) ak (by first|exact al|exact of_decide_eq_true qq_5 |(have e_:=(Kd.S_reads' HO_5.out).1;omega));obtain⟨ve512_0,rfl,ge512_0⟩:=hMe512;have hv512_0:=ao 0 _ rfl;rw[Nat.add_zero,show((Kd.slice 39 k39)).sz=1 from rfl,Nat.mul_one]at hv512_0;replace hv512_0:=Option.some.inj (hv512_0.symm.trans A);rw[hv512_0]at ge512_0;have HL512_0:=QA (show Kd.R k39 39 _ _ _ _ (Qkr x5_1 (rd l1 x10_1)) from ge512_0);clear hv512_0 ge512_0;have HX512_0:=QA A;clear ao hce512;have aU:=QA hi512_0;have bQ:=QA hl512_0;clear hi512_0 hl512_0;replace ak:=eq_true ak;replace al:=eq_true al;obtain⟨go33,co33,eo33,bb,gl33,cl33,HG33⟩:=Kd.S_form HO_5.out (by have h_:((rd l1 x10_1):Int)<((x5_1.length:Int):Int):=of_decide_eq_true qq_5;have bT:0≤((rd l1 x10_1):Int):=(of_decide_eq_true qq_5);omega)
           (first|cases eo33 |(injection eo33 with ea_ en_ ec_;(first|subst ea_ |(injection ea_ with ea_;subst ea_));subst ec_;clear en_))
           have GB33:=QA bb;have GG33:=QA HG33;clear bb gl33 HG33
           (first|simp only[Qdw]at A|skip)
           obtain⟨oki33,ce33,hcl33,hM33,aN,_,_,hH33⟩:=Kd.S_elem HO_5.out [] ((rd l1 x10_1):Int) (of_decide_eq_true qq_5) (by have h_:((rd l1 x10_1):Int)<((x5_1.length:Int):Int):=of_decide_eq_true qq_5;first|exact h_ |(have e_:=(Kd.S_reads' HO_5.out).1;omega)|simpa using h_);obtain⟨ve33_0,rfl,ge33_0⟩:=hM33;have hv33:=aN 0 _ rfl;have hX33:=HX512_0.out
           (try simp only[Qdw]at hX33)
           (try simp only[Nat.add_zero]at hv33)
           (try rw[show((Kd.slice 39 k39)).sz=1 from rfl,Nat.mul_one]at hv33)
           replace hv33:=Option.some.inj (hv33.symm.trans hX33);subst hv33;clear hX33 aN hcl33;have UU33:=QA (show Kd.R k39 39 _ w.heap.size oki33 (.slice ad (Qkr x5_1 (rd l1 x10_1)).length ae) (Qkr x5_1 (rd l1 x10_1)) from ge33_0);have HH33:=QA hH33;have HN33:=QA (Kd.S_reads' HO_5.out).1;clear hH33 ge33_0;refine Qhk (n:=17) (S:=fun w'=>w'.cell? ⟨a,0,none⟩=some (.bool ((Qkk l0 x10_1).f0))∧w'.cell? ⟨a,1,none⟩=some (.int .u64 ((Qkk l0 x10_1).f1))∧w'.cell? ⟨a,2,none⟩=some (.string ((Qkk l0 x10_1).f2))∧w'.cell? ⟨a,3,none⟩=some (.string ((Qkk l0 x10_1).f3))∧w'.cell? (l.add (x10_1).toNat)=some (.int .u64 (rd l1 x10_1))∧w'.cell? (l.add (x10_1).toNat)=some (.int .u64 (rd l1 x10_1))∧w'.cell? ⟨go33,((rd l1 x10_1)).toNat,none⟩=some (.slice ad (Qkr x5_1 (rd l1 x10_1)).length ae)) (ds:=[16]) (bm 17 0) qq_6 rfl rfl ⟨(Qep c.out 0).trans rfl,(Qep c.out 1).trans rfl,(Qep c.out 2).trans rfl,(Qep c.out 3).trans rfl,((HB.out.cell (World.block_lt_of_cell? w _ hw510_0)).trans hw510_0),((HB.out.cell (World.block_lt_of_cell? w _ hw511_0)).trans hw511_0),A⟩ (fun d=>?_);refine Qjb Qcj.tab7 Qcj.bits7 (fun HT_ HW_=>?_);generalize w31.drew=w32 at HO_5 c HB GG33 HH33 HL512_0 aU HX512_0 UU33 E G A d ⊢;refine pz_ (i:=0) (N:=some 26) (bm 17 1) (Qit HT_.out qq_6) ?_;refine pz_ (i:=1) (N:=some 27) (bm 17 3) (Qit HT_.out qq_6) ?_;refine pz_ (i:=2) (N:=some 28) (bm 17 7) (Qit HT_.out qq_6) ?_;refine pz_ (i:=3) (N:=some 29) (bm 17 15) (Qit HT_.out qq_6) ?_;refine pz_ (i:=5) (N:=some 31) (bm 17 47) (Qit HT_.out qq_6) ?_;refine pz_ (i:=6) (N:=some 32) (bm 17 111) (Qit HT_.out qq_6) ?_;refine pz_ (i:=7) (N:=some 33) (bm 17 239) (Qit HT_.out qq_6) ?_;refine pz_ (i:=8) (N:=some 34) (bm 17 495) (Qit HT_.out qq_6) ?_;refine tz_ (i:=4) (N:=some 30) (bm 17 511) (Qja HT_.out HW_.out qq_6) d ?_;refine tz_ (i:=9) (N:=some 35) (bm 17 1023) (Qja HT_.out HW_.out qq_6) d ?_;refine pz_ (i:=10) (N:=some 36) (bm 17 2047) (Qit HT_.out qq_6) ?_;refine tz_ (i:=11) (N:=some 37) (bm 17 4095) (Qja HT_.out HW_.out qq_6) d ?_;refine tz_ (i:=12) (N:=some 38) (bm 17 8191) (Qja HT_.out HW_.out qq_6) d ?_;refine one_ (i:=13) (N:=some 39) (bm 17 16383) rfl rfl (Qiu HT_.out qq_6) (by decide) (fun K hK=>?_);refine Qhv (w1:=?_) (v:=?_) (by rfl) rfl ?_ ?_;rotate_left 2
           ·go_simp
            constructor
            ·rfl
            ·rfl
           refine hK.out _ _ ⟨(Qep (Qfb c.out _) 0).trans rfl,(Qep (Qfb c.out _) 1).trans rfl,(Qep (Qfb c.out _) 2).trans rfl,(Qep (Qfb c.out _) 3).trans rfl,(World.cell?_alloc_lt _ _ _ (World.block_lt_of_cell? _ _ (((HB.out.cell (World.block_lt_of_cell? w _ hw510_0)).trans hw510_0)))).trans (((HB.out.cell (World.block_lt_of_cell? w _ hw510_0)).trans hw510_0)),(World.cell?_alloc_lt _ _ _ (World.block_lt_of_cell? _ _ (((HB.out.cell (World.block_lt_of_cell? w _ hw511_0)).trans hw511_0)))).trans (((HB.out.cell (World.block_lt_of_cell? w _ hw511_0)).trans hw511_0)),(World.cell?_alloc_lt _ _ _ (World.block_lt_of_cell? _ _ (d.2.2.2.2.2.2))).trans (d.2.2.2.2.2.2)⟩ (fun d=>?_);clear hK K;refine nzp_ 39 ?_;refine one_ (i:=14) (N:=some 40) (bm 17 32767) rfl rfl (Qiu HT_.out qq_6) (by decide) (fun K hK=>?_);refine Kd.R_append_step k39 (w0:=w) w.heap.size (by rfl) (.tmp 37) (.tmp 39) 23 39 (.agg #[(.bool false),(.int .u64 0),(.string ⟨#[]⟩),(.string ⟨#[]⟩)]) 48 rfl Tryz.underlying23 Qkg rfl (by decide) (by omega) (.slice ad (Qkr x5_1 (rd l1 x10_1)).length ae) (Qkr x5_1 (rd l1 x10_1)) (⟨(Qkk l0 x10_1).f0,(Qkk l0 x10_1).f1,(Qkk l0 x10_1).f2,(Qkk l0 x10_1).f3⟩:S39) [.bool ((Qkk l0 x10_1).f0),.int .u64 ((Qkk l0 x10_1).f1),.string ((Qkk l0 x10_1).f2),.string ((Qkk l0 x10_1).f3)] (fun k_=>oki33 k_∨((fun k_=>k_≠a)) k_∧w32.heap.size≤k_) (fun _=>False) rfl rfl ?aP (fun _ hk=>hk.elim) ?aF ?aO ?aB ?aS ?aL ?_
           (case aP=>exact Qkj _ _ _ (⟨(Qkk l0 x10_1).f0,(Qkk l0 x10_1).f1,(Qkk l0 x10_1).f2,(Qkk l0 x10_1).f3⟩:S39))
           (case aB=>exact qq_b)
           (case aF=>exact(fun k_ hk=>.inr ⟨Kd.freshB (g:=a) (o:=.cells #[.bool ((Qkk l0 x10_1).f0),.int .u64 ((Qkk l0 x10_1).f1),.string ((Qkk l0 x10_1).f2),.string ((Qkk l0 x10_1).f3)] 39 (0,0)) qq_0 k_ hk,hk⟩))
           (case aO=>exact(by(with_reducible repeat(first|apply Kd.R_alloc|apply Kd.R_drewN|apply Kd.R_drew));exact Kd.R_mono UU33.out (fun _ hk=>.inl hk)))
           (case aS=>exact(Qgj qq_b))
           (case aL=>have:=bk.out;omega)
           intro b7 cc ho hb hg hat
           (first|have HS6_:=Qka hg (d.2.2.2.2.2.2) (by first |(rw[Qgo];exact(fun e_=>((HL512_0.out.1 _ e_.symm).2) rfl)) |(show some (Addr.add _ _).block≠_;rw[Qgo];exact(fun e_=>((HL512_0.out.1 _ e_.symm).2) rfl))|exact(fun e_=>((HL512_0.out.1 _ e_.symm).2) rfl))|have HS6_:=Qka hg (Qjz (d.2.2.2.2.2.2) (by first |(rw[Qgo];exact Kd.S_lt HO_5.out _ rfl) |(show(Addr.add _ _).block<_;rw[Qgo];exact Kd.S_lt HO_5.out _ rfl)|exact Kd.S_lt HO_5.out _ rfl)) (by first |(rw[Qgo];exact(fun e_=>((HL512_0.out.1 _ e_.symm).2) rfl)) |(show some (Addr.add _ _).block≠_;rw[Qgo];exact(fun e_=>((HL512_0.out.1 _ e_.symm).2) rfl))|exact(fun e_=>((HL512_0.out.1 _ e_.symm).2) rfl)))
           rw[← bl.out]at ho;have n_:=qn4 (Qer (g:=a) (o:=.cells #[.bool ((Qkk l0 x10_1).f0),.int .u64 ((Qkk l0 x10_1).f1),.string ((Qkk l0 x10_1).f2),.string ((Qkk l0 x10_1).f3)] 39 (0,0)) qq_0 hg (Kd.R_away HL512_0.out (fun _ hk=>hk.1))) (hb) (Kd.H_grown (Kd.H_widen (by repeat(first|exact HH33.out|refine Kd.H_alloc ?_ _|refine Kd.H_drewN ?_ _|refine Kd.H_drew ?_))) hg (fun k_ e_=>.inl (UU33.out.1 k_ e_))) (ho);clear c HB HH33 HO_5 UU33 HL512_0;obtain⟨c,HB,HH33,aQ⟩:=n_;clear ho hb hg hat;have bv:0≤((rd l1 x10_1):Int):=of_decide_eq_true qq_5;have bw:((rd l1 x10_1):Int)<((x5_1.length:Int):Int):=of_decide_eq_true qq_5;replace bv:=eq_true bv;replace bw:=eq_true bw;obtain⟨Ao37,co37,eo37⟩:=Kd.R_slice aQ.out
           (first|subst eo37 |(injection eo37 with f1_ f2_ f3_;have f4_:=f1_.symm;have f5_:=f3_.symm;clear f1_ f2_ f3_;subst f4_;subst f5_))
           obtain⟨_,_,hraw35,_,_,aR,_⟩:=Kd.H_raw HH33.out (of_decide_eq_true qq_5) qq_27;obtain⟨_,hfr35⟩:=Kd.H_at HH33.out (of_decide_eq_true qq_5) qq_27;have ap:=aR 0 _ rfl;have hf35_0:=hfr35 0
           (try simp only[Nat.add_zero]at ap hf35_0)
           (try rw[show((Kd.slice 39 k39)).sz=1 from rfl,Nat.mul_one]at ap)
           (try rw[show((Kd.slice 39 k39)).sz=1 from rfl,Nat.mul_one]at hf35_0)
           have HP35:=Kd.S_seg0 HH33.out (of_decide_eq_true qq_5) qq_27 (seg:=[.slice Ao37 aj.length co37]) (j:=0) (show 1≤1 from by decide) (x':=aj) (Kd.M_row aQ.out) (fun _ hk=>hk)
           (try simp only[show((Kd.slice 39 k39)).sz=1 from rfl,Nat.mul_one,Nat.add_zero]at HP35)
           clear aR hfr35;have HNB498_go33:=QA (show a≠go33 from by have h_:=Kd.R_ne hraw35 c.out (by decide);intro e_;exact h_ (by rw[e_];rfl));have HS35:=HP35.1;rw[← bn.out]at HS35;have HQ35:=QA HS35;obtain⟨_,hgg35⟩:=Kd.R_typed hraw35 go33 rfl;have GG35_:=QA hgg35;clear HP35 HS35 hgg35;refine hK.out _ _ ⟨(Qep c.out 0).trans rfl,(Qep c.out 1).trans rfl,(Qep c.out 2).trans rfl,(Qep c.out 3).trans rfl,((HB.out.cell (World.block_lt_of_cell? w _ hw510_0)).trans hw510_0),((HB.out.cell (World.block_lt_of_cell? w _ hw511_0)).trans hw511_0),HS6_⟩ (fun d=>?_);clear hK K;refine nzp_ 40 ?_;refine pz_ (i:=15) (N:=some 41) (bm 17 65535) (Qit HT_.out qq_6) ?_;refine last_ (i:=16) (N:=none) (bm 17 131071) rfl rfl (Qiu HT_.out qq_6) (by decide) (fun K hK=>?_);refine Qhw (w1:=?_) (by rfl) rfl ?_ ?_;rotate_left
           ·go_simp;rfl
           refine hK.out _ _ ?_;clear hK K;refine Qhn (Qiw HT_.out qq_6) ?_
           try go_wp2
           go_roundg k1
           case measure=>have:=HK1.out;omega
           case rel=>exact⟨(aX),(wrap64 (x10_1+1)),qq_8,H',⟨by have:=HK1.out;omega⟩,⟨by(with_reducible repeat(first|apply Kd.S_alloc|apply Kd.S_drewN|apply Kd.S_drew));exact Kd.S_mono HQ35.out (fun _ hk=>trivial)⟩,⟨qq_b⟩⟩
          ·rw[if_neg aK]at H;exact absurd H (by simp)
         ·rw[if_neg aJ]at H;exact absurd H (by simp)
        ·rw[if_neg aI]at H;exact absurd H (by simp)
      ·rw[if_neg c6]at H;exact absurd H (by simp)
     ·rw[if_neg c5]at H;exact absurd H (by simp)
    ·rw[if_neg c4]at H;exact absurd H (by simp)
   ·rw[if_neg c3]at H;have bx:=decide_eq_false c3;clear c3;obtain rfl:=Option.some.inj H;go_wp2;go_ret
    exact⟨_,by first|rfl |(simp[Qkb,Qkc]<;>rfl) |(simp[*,Qkb,Qkc]<;>rfl),by(with_reducible repeat(first|apply Kd.S_alloc|apply Kd.S_drewN|apply Kd.S_drew));exact HO_5.out,qq_b⟩
def Qbj.j0:Nat→Bool→Bool→Int→ByteArray→ByteArray→Option (Int)
 | 0,_,_,_,_,_=>none
 | k+1,x18,x310000,x310001,x310002,x310003=>if x18=true then(some 4)else(if(x310003.size:Int) > 1048576 then(some 3)else(some 0))
def Qbj.f(k:Nat)(a0_0:Bool)(a0_1:Int)(a0_2:ByteArray)(a0_3:ByteArray):Option (Int):=if(a0_2.size:Int)=0 then(some 4)else(if(a0_2.size:Int) > 4096 then(some 3)else(if a0_0=true then(Qbj.j0 k (decide ((a0_3.size:Int) > 0)) a0_0 a0_1 a0_2 a0_3)else(Qbj.j0 k false a0_0 a0_1 a0_2 a0_3)))
theorem Qbj.calls(k:Nat)(g:Bool)(j:Int)(b:ByteArray)(c:ByteArray)(r:Int)(w:World)(h:Qbj.f k g j b c=some r) :
  Calls Tryz.prog 23 #[.agg #[.bool g,.int .u64 j,.string b,.string c]] w fun e w'=>e=.returned (.int .i64 r)∧Below w.heap.size w w':=by
 have hu39:=Tryz.underlying39;have HB:=QA (Below.refl w.heap.size w);have H:(if(b.size:Int)=0 then(some 4)else(if(b.size:Int) > 4096 then(some 3)else(if g=true then(Qbj.j0 k (decide ((c.size:Int) > 0)) g j b c)else(Qbj.j0 k false g j b c))))=some r:=h;clear h
 by_cases c2:(b.size:Int)=0
 ·rw[if_pos c2]at H;have I:((b.size:Int) == 0)=true:=beq_iff_eq.mpr c2;have J:((b.size:Int) != 0)=false:=bne_eq_false_iff_eq.mpr c2;clear c2;obtain rfl:=Option.some.inj H
  go_enter Tryz.func23,Tryz.ntmps23
  go_wp2_with (first |((with_reducible refine Qgv (N:=1) rfl ?_);(try(refine Qjl (by rfl) ?_;dsimp only));refine qq_e 1 #[.bool g,.int .u64 j,.string b,.string c] 39 ?_;intro d hg w3 hbox hb;have n_:=qn4 (Qgk qq_b hb) (hbox) (qq_s hg:w.heap.size≤d) (qq_s hg:w.heap.size≤d);clear HB;obtain⟨HB,a,o,p⟩:=n_;clear hb hbox hg;obtain⟨K,L,M,O⟩:=qc4 a.out;have af:=Qeq a.out))
  go_ret
  exact⟨qq_7,qq_b⟩
 ·rw [if_neg c2]at H;have I:((b.size:Int) == 0)=false:=beq_eq_false_iff_ne.mpr c2;have J:((b.size:Int) != 0)=true:=bne_iff_ne.mpr c2
  by_cases c5:(b.size:Int) > 4096
  ·rw[if_pos c5]at H;have P:decide (4096<(b.size:Int))=true:=decide_eq_true c5;have T:decide (4096<b.size)=true:=decide_eq_true (by omega);clear c5;obtain rfl:=Option.some.inj H
   go_enter Tryz.func23,Tryz.ntmps23
   go_wp2_with (first |((with_reducible refine Qgv (N:=1) rfl ?_);(try(refine Qjl (by rfl) ?_;dsimp only));refine qq_e 1 #[.bool g,.int .u64 j,.string b,.string c] 39 ?_;intro d hg w6 hbox hb;have n_:=qn4 (Qgk qq_b hb) (hbox) (qq_s hg:w.heap.size≤d) (qq_s hg:w.heap.size≤d);clear HB;obtain⟨HB,a,o,p⟩:=n_;clear hb hbox hg;obtain⟨U,W,X,Y⟩:=qc4 a.out;have ag:=Qeq a.out))
   go_ret
   exact⟨qq_7,qq_b⟩
  ·rw [if_neg c5]at H;have P:decide (4096<(b.size:Int))=false:=decide_eq_false c5;have T:decide (4096<b.size)=false:=decide_eq_false (by omega);clear c5;have Z:=QA H;clear H
   go_enter Tryz.func23,Tryz.ntmps23
   go_upto_region 5 with(first |((with_reducible refine Qgv (N:=1) rfl ?_);(try(refine Qjl (by rfl) ?_;dsimp only));refine qq_e 1 #[.bool g,.int .u64 j,.string b,.string c] 39 ?_;intro d hg w9 hbox hb;have n_:=qn4 (Qgk qq_b hb) (hbox) (qq_s hg:w.heap.size≤d) (qq_s hg:w.heap.size≤d);clear HB;obtain⟨HB,a,o,p⟩:=n_;clear hb hbox hg;obtain⟨s,t,u,v⟩:=qc4 a.out;have aa:=Qeq a.out))
   (try simp only[Act.put,List.setIfInBounds_toArray,List.set_cons_zero,List.set_cons_succ])
   go_cut [18] (fun ap wc=>∃(kq:Nat) (l:Bool),ap=.bool l∧Aside0 (Qbj.j0 kq l g j b c=some r)∧Aside0 (kq≤k)∧Aside0 (wc.heap[d]? = some (.cells #[.bool g,.int .u64 j,.string b,.string c] 39 (0,0)))∧Aside0 (Below w.heap.size w wc))
   case first =>
    have H:=Z.out;clear Z
    by_cases n:g=true
    ·subst n;rw[if_pos rfl]at H;have H':=QA H;clear H;obtain⟨x,y,z,A⟩:=qc4 a.out;have ab:=Qeq a.out;go_wp2
     go_meet
     case rel=>exact⟨_,(decide ((c.size:Int) > 0)),qq_8,H',⟨by first|omega|exact Nat.le_refl _⟩,⟨by(with_reducible repeat(first|apply Qfd|apply Qfc|apply Qfb));exact a.out⟩,⟨qq_b⟩⟩
    ·replace n:=Bool.eq_false_iff.mpr n;subst n;rw[if_neg (show ¬(false=true)by decide)]at H;have H':=QA H;clear H;obtain⟨B,D,E,G⟩:=qc4 a.out;have ac:=Qeq a.out;go_wp2
     go_meet
     case rel=>exact⟨_,(false),qq_8,H',⟨by first|omega|exact Nat.le_refl _⟩,⟨by(with_reducible repeat(first|apply Qfd|apply Qfc|apply Qfb));exact a.out⟩,⟨qq_b⟩⟩
   case rest =>
    clear Z
    try clear c2
    try clear I
    try clear J
    try clear c5
    try clear P
    try clear T
    try clear n
    try clear s
    try clear t
    try clear u
    try clear v
    try clear x
    try clear y
    try clear z
    try clear A
    try clear B
    try clear D
    try clear E
    try clear G
    try clear K
    try clear L
    try clear M
    try clear O
    try clear U
    try clear W
    try clear X
    try clear Y
    try clear aa
    try clear ab
    try clear ac
    try clear af
    try clear ag
    obtain⟨kq,l,rfl,HA,HJ7,a,HB⟩:=hcut
    cases kq with
    | zero=>exact absurd HA.out (by simp[Qbj.j0])
    | succ kj7 =>
     have H:=HA.out;clear HA;simp only[Qbj.j0]at H
     by_cases q:l=true
     ·subst q;rw[if_pos rfl]at H;obtain rfl:=Option.some.inj H;go_wp2;go_ret
      exact⟨qq_7,qq_b⟩
     ·replace q:=Bool.eq_false_iff.mpr q;subst q;rw[if_neg (show ¬(false=true)by decide)]at H
      by_cases m:(c.size:Int) > 1048576
      ·rw[if_pos m]at H;have ad:decide (1048576<(c.size:Int))=true:=decide_eq_true m;have ae:decide (1048576<c.size)=true:=decide_eq_true (by omega);clear m;obtain rfl:=Option.some.inj H;obtain⟨ah,ai,aj,ak⟩:=qc4 a.out;have aq:=Qeq a.out;go_wp2;go_ret
       exact⟨qq_7,qq_b⟩
      ·rw[if_neg m]at H;have ad:decide (1048576<(c.size:Int))=false:=decide_eq_false m;have ae:decide (1048576<c.size)=false:=decide_eq_false (by omega);clear m;obtain rfl:=Option.some.inj H;obtain⟨al,am,an,ao⟩:=qc4 a.out;have ar:=Qeq a.out;go_wp2;go_ret
       exact⟨qq_7,qq_b⟩
end Go.Proofs.YtnnofopfbeklbaaGreat.C
end
