/- Merged texts. -/
import Derived.Test.YteaocbonofboeaaGreatMD02
import Derived.Test.YteaocbonofboeaaGreatMD26
import Derived.Test.YteaocbonofboeaaGreatMD17
import Derived.Test.YteaocbonofboeaaGreatMD14
import Derived.Test.YteaocbonofboeaaGreatMD20
import Derived.Test.YteaocbonofboeaaGreatMD06
set_option linter.unusedVariables false
set_option linter.unusedSimpArgs false
set_option maxHeartbeats 8000000
set_option maxRecDepth 100000
section
namespace Go.Proofs.YteaocbonofboeaaGreat.C
open Go.RowKit Go.Proofs.YteaocbonofboeaaGreatW.PrintWords Go.Proofs.YteaocbonofboeaaGreatW.PrintLast Go.Proofs.YteaocbonofboeaaGreatW.PrintMore
attribute [local go_sem] Qhl Qhm Qhn Qho Qhp Qhq Qhr Qhs
noncomputable def Qar.l0:Nat→List Int→List (S37)→List (S45)→Int→Int→Int→Int→Option ((List (S37)) × Int)
 | 0,_,_,_,_,_,_,_=>none
 | k+1,x1,x8,x21,x22,x23,x797000,x797001=>if x23<x22 then(if 0≤x23 then(if x23<(x21.length:Int)then(if x8.length+((Qip x21 x23).f0).length<2932031007402 then(Qar.l0 k x1 (x8++((Qip x21 x23).f0)) x21 x22 (wrap64 (x23+1)) x797000 x797001)else(none))else(none))else(none))else((Qbk.f k x797000 x797001 x8).bind fun bt806=>(if bt806.2=0 then((Qad.f bt806.1 x1).bind fun t810=>(if t810=true then(some (x8,0))else(some (([]:List (S37)),4))))else(some (([]:List (S37)),4))))
noncomputable def Qar.f(k:Nat)(a0_0:Int)(a0_1:Int)(l1:List Int):Option ((List (S37)) × Int):=(Qat.f k a0_0 a0_1 l1).bind fun bt797=>(if bt797.2=0 then(Qar.l0 k l1 ([]:List (S37)) bt797.1 (bt797.1.length:Int) 0 a0_0 a0_1)else(some (([]:List (S37)),bt797.2)))
theorem Qar.calls (k:Nat) (l:Int) (m:Int) (A1:Option Addr) (c1:Nat) (l1:List Int) (r1:List (S37)) (r2:Int) (w:World) (hr1:Kd.C (Kd.int .u8) w A1 l1.length l1) (hc1:l1.length≤c1) (h:Qar.f k l m l1=some (r1,r2)) :
  Calls Tryz.prog 53 #[.agg #[.int .u8 l,.int .u32 m],.slice A1 l1.length c1] w fun e w'=>∃aw:Value,e=.returned (.tuple #[aw,.int .i64 r2])∧Kd.R k37 37 w' w.heap.size (fun _=>True) aw r1∧Below w.heap.size w w':=by
 have hu28:=Tryz.underlying28;have hu45:=Tryz.underlying45;have U:=QA hr1;have W:=QA hc1;clear hr1 hc1;have HB:=QA (Below.refl w.heap.size w);have H:((Qat.f k l m l1).bind fun bt797=>(if bt797.2=0 then(Qar.l0 k l1 ([]:List (S37)) bt797.1 (bt797.1.length:Int) 0 l m)else(some (([]:List (S37)),bt797.2))))=some (r1,r2):=h;clear h;replace H:=Option.bind_eq_some_iff.mp H;obtain⟨⟨c,z⟩,ax,H⟩:=H;replace H:(if z=0 then(Qar.l0 k l1 ([]:List (S37)) c (c.length:Int) 0 l m)else(some (([]:List (S37)),z)))=some (r1,r2):=H;have A3:=QA ax;clear ax
 by_cases c4:z=0
 ·rw [if_pos c4]at H;have ad:(z == 0)=true:=beq_iff_eq.mpr c4;have ae:(z != 0)=false:=bne_eq_false_iff_eq.mpr c4;clear c4;have H':=QA H;clear H
  go_enter Tryz.func53,Tryz.ntmps53
  go_wp2_with (first |((with_reducible refine Qey (N:=2) rfl ?_);refine qq_e 2 #[.int .u8 l,.int .u32 m] 28 ?_;intro n hg w5 hbox hb;have n_:=qn4 (Qeo qq_b hb) (hbox) (qq_s hg:w.heap.size≤n) (qq_s hg:w.heap.size≤n);clear HB;obtain⟨HB,d,an,ao⟩:=n_;clear hb hbox hg;obtain⟨af,ag⟩:=qc2 d.out;have az:=Qdc d.out) |((with_reducible refine Qht (f:=52) rfl ?_);refine Qft (some 15) rfl rfl Tryz.func52 qq_4 rfl #[.agg #[.int .u8 l,.int .u32 m],.slice A1 l1.length c1] rfl qq_1 ?_;(with_reducible refine(Qat.calls k l m _ _ l1 c z _ ?side1 ?side2 A3.out).mono ?_);(case side1=>repeat(first|exact(Kd.C_below U.out HB.out) |(with_reducible refine Kd.C_alloc ?_ _) |(with_reducible refine Kd.C_drewN ?_ _) |(with_reducible refine Kd.C_drew ?_)));(case side2=>exact W.out);rintro e w7 ⟨aA,rfl,s,hb⟩;refine⟨_,rfl,?_⟩;have n_:=qn3 (Kd.S_lower s (Qen qq_b)) (Qdo (g:=n) (o:=.cells #[.int .u8 l,.int .u32 m] 28 (0,0)) qq_0 hb) (Qeo qq_b hb);clear d HB;obtain⟨K,d,HB⟩:=n_;(try clear hb);(try clear hb2);(try clear hk);(try clear hi);(try clear s);obtain⟨Ao8,co8,eo8⟩:=Kd.S_slice K.out;subst eo8))
  go_loopg [8,23] k (fun kq v8 aZ w'=>∃(q:List (S37)) (a:Int),aZ=.int .i64 a∧Aside0 (Qar.l0 kq l1 q c (c.length:Int) a l m=some (r1,r2))∧Aside0 (kq≤k)∧Aside0 (Kd.R k37 37 w' w.heap.size (fun _=>True) v8 q)∧Aside0 (Kd.S k45 45 w' w.heap.size (fun k_=>some k_≠(v8:Value).ownBlock) (.slice Ao8 c.length co8) c)∧Aside0 (w'.heap[n]? = some (.cells #[.int .u8 l,.int .u32 m] 28 (0,0)))∧Aside0 (Below w.heap.size w w'))
  case atStart=>exact⟨(([]:List (S37))),(0),qq_8,H',⟨Nat.le_refl _⟩,⟨by first|exact Kd.R_nil _ _ _ _ _|exact Kd.N_nil _ _ _ _ _|exact Kd.V_nil _ _ _ _ _|exact Kd.Q_nil _ _ _ _ _|exact Kd.S_nil _ _ _ _ _⟩,⟨by(with_reducible repeat(first|apply Kd.S_alloc|apply Kd.S_drewN|apply Kd.S_drew));exact Kd.S_mono K.out (fun _ hk=>(by simp[Value.ownBlock]))⟩,⟨by(with_reducible repeat(first|apply Qdn|apply Qdm|apply Qdl));exact d.out⟩,⟨qq_b⟩⟩
  case round =>
   clear H'
   try clear c1
   try clear c4
   try clear ad
   try clear ae
   try clear af
   try clear ag
   try clear az
   obtain⟨q,a,rfl,HA,HK1,HO_8,HO_21,d,HB⟩:=hrel
   cases gk with
   | zero=>exact absurd HA.out (by simp[Qar.l0])
   | succ k1 =>
    have H:=HA.out;clear HA;simp only[Qar.l0]at H
    by_cases c9:a<(c.length:Int)
    ·rw [if_pos c9]at H;have aC:=decide_eq_true c9;clear c9
     by_cases c10:0≤a
     ·rw[if_pos c10]at H;have ba:=decide_eq_true c10;clear c10
      by_cases X:a<(c.length:Int)
      ·rw[if_pos X]at H;have bb:=decide_eq_true X;clear X
       by_cases Y:q.length+((Qip c a).f0).length<2932031007402
       ·rw[if_pos Y]at H;have ap:=QA Y;clear Y;obtain⟨ah,E⟩:∃y_:List (S37),y_=(q++((Qip c a).f0)):=⟨_,rfl⟩;replace H:(Qar.l0 k1 l1 ah c (c.length:Int) (wrap64 (a+1)) l m)=some (r1,r2):=by first |(rw[E];with_reducible exact H) |(have ai:=(Option.bind_some _ _).symm.trans H;rw[E];with_reducible exact ai) |(have ai:=(Option.bind_some _ _).symm.trans H;with_reducible exact ai)|with_reducible exact H |(rw[E];exact H)|exact H
        have aq:=QA E;clear E;have H':=QA H;clear H;have L:0≤(a:Int):=of_decide_eq_true qq_2;have M:a<(c.length:Int):=of_decide_eq_true qq_2;obtain⟨Z,u,v,x,y,aD,ab,ac,aE,aG,hl801_0,hi801_0,hl801_1,hi801_1⟩:=at_T45 (Kd.S_reads' HO_21.out).2.2 a L M
        cases aD
        obtain⟨ce801,hce801,hMe801,I⟩:=Kd.S_get HO_21.out z45 a L (by first|exact M|exact of_decide_eq_true qq_2 |(have e_:=(Kd.S_reads' HO_21.out).1;omega));obtain⟨ve801_0,ve801_1,rfl,ge801_0,ge801_1⟩:=Qio hMe801;have hv801_0:=I 0 _ rfl;rw[Nat.add_zero]at hv801_0;replace hv801_0:=Option.some.inj (hv801_0.symm.trans ab);rw[hv801_0]at ge801_0;have HL801_0:=QA (show Kd.R k37 37 _ _ _ _ ((Qip c a).f0) from ge801_0);clear hv801_0 ge801_0;have hv801_1:=I 1 _ rfl;rw[Qcw _ _ 1 (by omega)]at hv801_1;replace hv801_1:=Option.some.inj (hv801_1.symm.trans ac);rw[hv801_1]at ge801_1;have HL801_1:=QA (show Kd.R (Kd.int .u32) 26 _ _ _ _ ((Qip c a).f1) from ge801_1);clear hv801_1 ge801_1 I hce801;have B:=QA hi801_0;have aH:=QA hl801_0;clear hi801_0 hl801_0;have D:=QA hi801_1;have aI:=QA hl801_1;clear hi801_1 hl801_1;replace L:=eq_true L;replace M:=eq_true M
        go_wp2_with (first |((with_reducible refine Qey (N:=10) rfl ?_);refine qq_e 10 #[.slice none 0 0,.slice none 0 0,.int .u32 0,.bool false] 45 ?_;intro j hg bn hbox hb;have n_:=qn13 (Kd.R_below qq_22 hb) (Kd.S_below (Kd.S_elderB qq_21 j (Nat.le_of_eq hg.symm)) hb) (Kd.R_below (by(with_reducible repeat(first|apply Kd.R_alloc|apply Kd.R_drewN|apply Kd.R_drew));exact HL801_0.out) hb) (Kd.R_below (by(with_reducible repeat(first|apply Kd.R_alloc|apply Kd.R_drewN|apply Kd.R_drew));exact HL801_1.out) hb) (Qdo (g:=n) (o:=.cells #[.int .u8 l,.int .u32 m] 28 (0,0)) qq_0 hb) (Kd.C_below (by repeat(first |(with_reducible exact B.out) |(with_reducible refine Kd.C_alloc ?_ _) |(with_reducible refine Kd.C_drewN ?_ _) |(with_reducible refine Kd.C_drew ?_)|exact B.out)) hb) (Kd.C_below (by repeat(first |(with_reducible exact D.out) |(with_reducible refine Kd.C_alloc ?_ _) |(with_reducible refine Kd.C_drewN ?_ _) |(with_reducible refine Kd.C_drew ?_)|exact D.out)) hb) (Qeo qq_b hb) (hbox) (qq_s hg:w.heap.size≤j) (qq_s hg:w.heap.size≤j) ((by rw[hg];exact Nat.ne_of_lt (Qda (g:=n) (o:=.cells #[.int .u8 l,.int .u32 m] 28 (0,0)) qq_0):n≠j)) ((by rw[hg];exact Nat.ne_of_gt (Qda (g:=n) (o:=.cells #[.int .u8 l,.int .u32 m] 28 (0,0)) qq_0):j≠n));clear HO_8 HO_21 HL801_0 HL801_1 d B D HB;obtain⟨HO_8,HO_21,HL801_0,HL801_1,d,B,D,HB,r,bc,bd,O,P⟩:=n_;clear hb hbox hg;have be:=P.out;have bf:=O.out;obtain⟨aJ,aK,aM,aN⟩:=qc4 r.out;have bg:=Qdc r.out) |((with_reducible refine Qhu (b:=.append) (xs:=#[.tmp 27,.tmp 29]) rfl ?_);at_builtin;refine Kd.R_append_rows k37 (w0:=w) w.heap.size rfl (.tmp 27) (.tmp 29) 22 37 (.agg #[(.bool false),(.int .u64 0),(.string ⟨#[]⟩),(.string ⟨#[]⟩)]) 48 rfl Tryz.underlying22 Qid rfl (by decide) (by omega) u8 q ((Qip c a).f0) _ _ _ (fun _=>True) (fun _=>False) rfl rfl ?aO ?aR (fun _ _ h=>h) (fun _ h=>h.elim) ?aF ?aB ?aS ?aL ?_;(case aR=>repeat(first|exact((Kd.R_reads' (by(with_reducible repeat(first|apply Kd.R_alloc|apply Kd.R_drewN|apply Kd.R_drew));exact(Kd.R_mono (Kd.R_far (p:=⟨j,3,none⟩) (Kd.R_far (p:=⟨j,2,none⟩) (Kd.R_far (p:=⟨j,1,none⟩) (Kd.R_far (p:=⟨j,0,none⟩) (Kd.R_types HL801_0.out r.out (by decide)) (fun _ hk=>hk.2) (.slice u ((Qip c a).f0).length v)) (fun _ hk=>hk.2) (.slice x ((Qip c a).f1).length y)) (fun _ hk=>hk.2) (.int .u32 ((Qip c a).f2))) (fun _ hk=>hk.2) (.bool ((Qip c a).f3))) (fun _ h_=>h_.1)))).2.2) |(with_reducible refine Kd.C_alloc ?_ _) |(with_reducible refine Kd.C_drewN ?_ _) |(with_reducible refine Kd.C_drew ?_)));(case aB=>exact qq_b);(case aF=>exact(fun _ _=>trivial));(case aO=>exact(by(with_reducible repeat(first|apply Kd.R_alloc|apply Kd.R_drewN|apply Kd.R_drew));exact Kd.R_mono (Kd.R_far (p:=⟨j,3,none⟩) (Kd.R_far (p:=⟨j,2,none⟩) (Kd.R_far (p:=⟨j,1,none⟩) (Kd.R_far (p:=⟨j,0,none⟩) (Kd.R_types HO_8.out r.out (by decide)) (fun _ hk=>hk.2) (.slice u ((Qip c a).f0).length v)) (fun _ hk=>hk.2) (.slice x ((Qip c a).f1).length y)) (fun _ hk=>hk.2) (.int .u32 ((Qip c a).f2))) (fun _ hk=>hk.2) (.bool ((Qip c a).f3))) (fun _ hk=>trivial)));(case aS=>exact(Qen qq_b));(case aL=>have:=ap.out;omega);intro bl bo ho hb hg hat;rw[← aq.out]at ho;have n_:=qn7 (Kd.S_after (ok:=(fun k_=>k_≠j)) (by(with_reducible repeat(first|apply Kd.S_alloc|apply Kd.S_drewN|apply Kd.S_drew));exact Kd.S_mono (Kd.S_far (p:=⟨j,3,none⟩) (Kd.S_far (p:=⟨j,2,none⟩) (Kd.S_far (p:=⟨j,1,none⟩) (Kd.S_far (p:=⟨j,0,none⟩) (Kd.S_mono HO_21.out (fun k_ hk=>(⟨hk,hk.2⟩:_∧k_≠j))) (fun _ hk=>hk.2) (.slice u ((Qip c a).f0).length v)) (fun _ hk=>hk.2) (.slice x ((Qip c a).f1).length y)) (fun _ hk=>hk.2) (.int .u32 ((Qip c a).f2))) (fun _ hk=>hk.2) (.bool ((Qip c a).f3))) (fun _ hk=>⟨hk.1.2,hk.1.1⟩)) hg hat) (Qdd (g:=n) (o:=.cells #[.int .u8 l,.int .u32 m] 28 (0,0)) qq_7 hg (Kd.R_ne HO_8.out d.out (by decide))) (Kd.R_after (ok:=(fun k_=>some k_≠(.slice (some Z) c.length co8:Value).ownBlock)) (by(with_reducible repeat(first|apply Kd.R_alloc|apply Kd.R_drewN|apply Kd.R_drew));exact Kd.R_mono (Kd.R_far (p:=⟨j,3,none⟩) (Kd.R_far (p:=⟨j,2,none⟩) (Kd.R_far (p:=⟨j,1,none⟩) (Kd.R_far (p:=⟨j,0,none⟩) (Kd.R_types HL801_0.out r.out (by decide)) (fun _ hk=>hk.2) (.slice u ((Qip c a).f0).length v)) (fun _ hk=>hk.2) (.slice x ((Qip c a).f1).length y)) (fun _ hk=>hk.2) (.int .u32 ((Qip c a).f2))) (fun _ hk=>hk.2) (.bool ((Qip c a).f3))) (fun _ hk=>⟨hk.1.2,hk.1.1⟩)) hg hat) (Kd.R_after (ok:=(fun k_=>some k_≠(.slice (some Z) c.length co8:Value).ownBlock)) (by(with_reducible repeat(first|apply Kd.R_alloc|apply Kd.R_drewN|apply Kd.R_drew));exact Kd.R_mono (Kd.R_far (p:=⟨j,3,none⟩) (Kd.R_far (p:=⟨j,2,none⟩) (Kd.R_far (p:=⟨j,1,none⟩) (Kd.R_far (p:=⟨j,0,none⟩) (Kd.R_types HL801_1.out r.out (by decide)) (fun _ hk=>hk.2) (.slice u ((Qip c a).f0).length v)) (fun _ hk=>hk.2) (.slice x ((Qip c a).f1).length y)) (fun _ hk=>hk.2) (.int .u32 ((Qip c a).f2))) (fun _ hk=>hk.2) (.bool ((Qip c a).f3))) (fun _ hk=>⟨hk.1.2,hk.1.1⟩)) hg hat) (Qdd (g:=j) (o:=.cells #[.slice u ((Qip c a).f0).length v,.slice x ((Qip c a).f1).length y,.int .u32 ((Qip c a).f2),.bool ((Qip c a).f3)] 45 (0,0)) qq_x hg (Kd.R_ne HO_8.out r.out (by decide))) (hb) (ho);clear HO_21 d HL801_0 HL801_1 r HB HO_8;obtain⟨HO_21,d,HL801_0,HL801_1,r,HB,ar⟩:=n_;clear ho hb hg hat))
        go_roundg k1
        case measure=>have:=HK1.out;omega
        case rel=>exact⟨(ah),(wrap64 (a+1)),qq_8,H',⟨by have:=HK1.out;omega⟩,⟨by(with_reducible repeat(first|apply Kd.R_alloc|apply Kd.R_drewN|apply Kd.R_drew));exact ar.out⟩,⟨by(with_reducible repeat(first|apply Kd.S_alloc|apply Kd.S_drewN|apply Kd.S_drew));exact Kd.S_mono HO_21.out (fun _ hk=>hk.2)⟩,⟨by(with_reducible repeat(first|apply Qdn|apply Qdm|apply Qdl));exact d.out⟩,⟨qq_b⟩⟩
       ·rw[if_neg Y]at H;exact absurd H (by simp)
      ·rw[if_neg X]at H;exact absurd H (by simp)
     ·rw[if_neg c10]at H;exact absurd H (by simp)
    ·rw[if_neg c9]at H;have aC:=decide_eq_false c9;clear c9;replace H:=Option.bind_eq_some_iff.mp H;obtain⟨⟨G,A⟩,aj,H⟩:=H;replace H:(if A=0 then((Qad.f G l1).bind fun T=>(if T=true then(some (q,0))else(some (([]:List (S37)),4))))else(some (([]:List (S37)),4)))=some (r1,r2):=H;have ak:=QA aj;clear aj
     by_cases J:A=0
     ·rw[if_pos J]at H;have au:(A == 0)=true:=beq_iff_eq.mpr J;have av:(A != 0)=false:=bne_eq_false_iff_eq.mpr J;clear J;replace H:=Option.bind_eq_some_iff.mp H;obtain⟨T,al,H⟩:=H;have ay:=QA al;clear al
      by_cases aa:T=true
      ·subst aa;rw[if_pos rfl]at H;simp only[Option.some.injEq,Prod.mk.injEq]at H;obtain⟨rfl,rfl⟩:=H;obtain⟨aP,aQ⟩:=qc2 d.out;have bh:=Qdc d.out;obtain⟨Ao22,co22,eo22⟩:=Kd.R_slice HO_8.out;subst eo22
       go_wp2_with (first |((with_reducible refine Qht (f:=32) rfl ?_);refine Qft (some 35) rfl rfl Tryz.func32 qq_4 rfl #[.agg #[.int .u8 l,.int .u32 m],.slice Ao22 q.length co22] rfl qq_1 ?_;(with_reducible refine(Qbk.calls k1 l m _ _ q G A _ ?side1 ?side2 ak.out).mono ?_);(case side1=>repeat(first|exact(Kd.R_reads' HO_8.out).2.2 |(with_reducible refine Kd.C_alloc ?_ _) |(with_reducible refine Kd.C_drewN ?_ _) |(with_reducible refine Kd.C_drew ?_)));(case side2=>exact(Kd.R_reads' HO_8.out).2.1);rintro e bp ⟨am,rfl,s,hb⟩;refine⟨_,rfl,?_⟩;have n_:=qn5 (Kd.R_below qq_22 hb) (Kd.S_below qq_21 hb) (Kd.R_lower s (Qen qq_b)) (Qdo (g:=n) (o:=.cells #[.int .u8 l,.int .u32 m] 28 (0,0)) qq_0 hb) (Qeo qq_b hb);clear HO_8 HO_21 d HB;obtain⟨HO_8,HO_21,t,d,HB⟩:=n_;(try clear hb);(try clear hb2);(try clear hk);(try clear hi);(try clear s);obtain⟨Ao24,co24,eo24⟩:=Kd.R_slice t.out;subst eo24) |(go_at_call 96;(with_reducible refine(Qad.calls _ _ G _ _ l1 true _ ?side1 ?side2 ?side3 ?side4 ay.out).mono ?_);(case side1=>repeat(first|exact(Kd.R_reads' t.out).2.2 |(with_reducible refine Kd.C_alloc ?_ _) |(with_reducible refine Kd.C_drewN ?_ _) |(with_reducible refine Kd.C_drew ?_)));(case side2=>exact(Kd.R_reads' t.out).2.1);(case side3=>repeat(first|exact(Kd.C_below U.out HB.out) |(with_reducible refine Kd.C_alloc ?_ _) |(with_reducible refine Kd.C_drewN ?_ _) |(with_reducible refine Kd.C_drew ?_)));(case side4=>exact W.out);rintro e w' ⟨rfl,⟨nd,rfl⟩⟩))
       go_ret2
       exact⟨_,by first|rfl |(simp[Qhy,Qhz]<;>rfl) |(simp[*,Qhy,Qhz]<;>rfl),by(with_reducible repeat(first|apply Kd.R_alloc|apply Kd.R_drewN|apply Kd.R_drew));exact HO_8.out,qq_b⟩
      ·replace aa:=Bool.eq_false_iff.mpr aa;subst aa;rw[if_neg (show ¬(false=true)by decide)]at H;simp only[Option.some.injEq,Prod.mk.injEq]at H;obtain⟨rfl,rfl⟩:=H;obtain⟨aT,aU⟩:=qc2 d.out;have bi:=Qdc d.out;obtain⟨Ao26,co26,eo26⟩:=Kd.R_slice HO_8.out;subst eo26
       go_wp2_with (first |((with_reducible refine Qht (f:=32) rfl ?_);refine Qft (some 35) rfl rfl Tryz.func32 qq_4 rfl #[.agg #[.int .u8 l,.int .u32 m],.slice Ao26 q.length co26] rfl qq_1 ?_;(with_reducible refine(Qbk.calls k1 l m _ _ q G A _ ?side1 ?side2 ak.out).mono ?_);(case side1=>repeat(first|exact(Kd.R_reads' HO_8.out).2.2 |(with_reducible refine Kd.C_alloc ?_ _) |(with_reducible refine Kd.C_drewN ?_ _) |(with_reducible refine Kd.C_drew ?_)));(case side2=>exact(Kd.R_reads' HO_8.out).2.1);rintro e bq ⟨am,rfl,s,hb⟩;refine⟨_,rfl,?_⟩;have n_:=qn5 (Kd.R_below qq_22 hb) (Kd.S_below qq_21 hb) (Kd.R_lower s (Qen qq_b)) (Qdo (g:=n) (o:=.cells #[.int .u8 l,.int .u32 m] 28 (0,0)) qq_0 hb) (Qeo qq_b hb);clear HO_8 HO_21 d HB;obtain⟨HO_8,HO_21,t,d,HB⟩:=n_;(try clear hb);(try clear hb2);(try clear hk);(try clear hi);(try clear s);obtain⟨Ao28,co28,eo28⟩:=Kd.R_slice t.out;subst eo28) |(go_at_call 96;(with_reducible refine(Qad.calls _ _ G _ _ l1 false _ ?side1 ?side2 ?side3 ?side4 ay.out).mono ?_);(case side1=>repeat(first|exact(Kd.R_reads' t.out).2.2 |(with_reducible refine Kd.C_alloc ?_ _) |(with_reducible refine Kd.C_drewN ?_ _) |(with_reducible refine Kd.C_drew ?_)));(case side2=>exact(Kd.R_reads' t.out).2.1);(case side3=>repeat(first|exact(Kd.C_below U.out HB.out) |(with_reducible refine Kd.C_alloc ?_ _) |(with_reducible refine Kd.C_drewN ?_ _) |(with_reducible refine Kd.C_drew ?_)));(case side4=>exact W.out);rintro e w' ⟨rfl,⟨nd,rfl⟩⟩))
       go_ret2
       exact⟨_,by first|rfl |(simp[Qhy,Qhz]<;>rfl) |(simp[*,Qhy,Qhz]<;>rfl),by first|exact Kd.R_nil _ _ _ _ _|exact Kd.N_nil _ _ _ _ _|exact Kd.V_nil _ _ _ _ _|exact Kd.Q_nil _ _ _ _ _|exact Kd.S_nil _ _ _ _ _,qq_b⟩
     ·rw[if_neg J]at H;have au:(A == 0)=false:=beq_eq_false_iff_ne.mpr J;have av:(A != 0)=true:=bne_iff_ne.mpr J;simp only[Option.some.injEq,Prod.mk.injEq]at H;obtain⟨rfl,rfl⟩:=H;obtain⟨aV,aW⟩:=qc2 d.out;have bj:=Qdc d.out;obtain⟨Ao30,co30,eo30⟩:=Kd.R_slice HO_8.out;subst eo30
      go_wp2_with (first |((with_reducible refine Qht (f:=32) rfl ?_);refine Qft (some 35) rfl rfl Tryz.func32 qq_4 rfl #[.agg #[.int .u8 l,.int .u32 m],.slice Ao30 q.length co30] rfl qq_1 ?_;(with_reducible refine(Qbk.calls k1 l m _ _ q G A _ ?side1 ?side2 ak.out).mono ?_);(case side1=>repeat(first|exact(Kd.R_reads' HO_8.out).2.2 |(with_reducible refine Kd.C_alloc ?_ _) |(with_reducible refine Kd.C_drewN ?_ _) |(with_reducible refine Kd.C_drew ?_)));(case side2=>exact(Kd.R_reads' HO_8.out).2.1);rintro e br ⟨am,rfl,s,hb⟩;refine⟨_,rfl,?_⟩;have n_:=qn5 (Kd.R_below qq_22 hb) (Kd.S_below qq_21 hb) (Kd.R_lower s (Qen qq_b)) (Qdo (g:=n) (o:=.cells #[.int .u8 l,.int .u32 m] 28 (0,0)) qq_0 hb) (Qeo qq_b hb);clear HO_8 HO_21 d HB;obtain⟨HO_8,HO_21,t,d,HB⟩:=n_;(try clear hb);(try clear hb2);(try clear hk);(try clear hi);(try clear s)))
      go_ret2
      exact⟨_,by first|rfl |(simp[Qhy,Qhz]<;>rfl) |(simp[*,Qhy,Qhz]<;>rfl),by first|exact Kd.R_nil _ _ _ _ _|exact Kd.N_nil _ _ _ _ _|exact Kd.V_nil _ _ _ _ _|exact Kd.Q_nil _ _ _ _ _|exact Kd.S_nil _ _ _ _ _,qq_b⟩
 ·rw[if_neg c4]at H;have ad:(z == 0)=false:=beq_eq_false_iff_ne.mpr c4;have ae:(z != 0)=true:=bne_iff_ne.mpr c4;simp only[Option.some.injEq,Prod.mk.injEq]at H;obtain⟨rfl,rfl⟩:=H
  go_enter Tryz.func53,Tryz.ntmps53
  go_wp2_with (first |((with_reducible refine Qey (N:=2) rfl ?_);refine qq_e 2 #[.int .u8 l,.int .u32 m] 28 ?_;intro n hg bs hbox hb;have n_:=qn4 (Qeo qq_b hb) (hbox) (qq_s hg:w.heap.size≤n) (qq_s hg:w.heap.size≤n);clear HB;obtain⟨HB,d,an,ao⟩:=n_;clear hb hbox hg;obtain⟨aX,aY⟩:=qc2 d.out;have bk:=Qdc d.out) |((with_reducible refine Qht (f:=52) rfl ?_);refine Qft (some 15) rfl rfl Tryz.func52 qq_4 rfl #[.agg #[.int .u8 l,.int .u32 m],.slice A1 l1.length c1] rfl qq_1 ?_;(with_reducible refine(Qat.calls k l m _ _ l1 c z _ ?side1 ?side2 A3.out).mono ?_);(case side1=>repeat(first|exact(Kd.C_below U.out HB.out) |(with_reducible refine Kd.C_alloc ?_ _) |(with_reducible refine Kd.C_drewN ?_ _) |(with_reducible refine Kd.C_drew ?_)));(case side2=>exact W.out);rintro e bu ⟨aA,rfl,s,hb⟩;refine⟨_,rfl,?_⟩;have n_:=qn3 (Kd.S_lower s (Qen qq_b)) (Qdo (g:=n) (o:=.cells #[.int .u8 l,.int .u32 m] 28 (0,0)) qq_0 hb) (Qeo qq_b hb);clear d HB;obtain⟨K,d,HB⟩:=n_;(try clear hb);(try clear hb2);(try clear hk);(try clear hi);(try clear s)))
  go_ret2
  exact⟨_,by first|rfl |(simp[Qhy,Qhz]<;>rfl) |(simp[*,Qhy,Qhz]<;>rfl),by first|exact Kd.R_nil _ _ _ _ _|exact Kd.N_nil _ _ _ _ _|exact Kd.V_nil _ _ _ _ _|exact Kd.Q_nil _ _ _ _ _|exact Kd.S_nil _ _ _ _ _,qq_b⟩
noncomputable def Qas.f(k:Nat)(a0_0:Int)(a0_1:Int)(l1:List Int):Option (Bool):=(Qar.f k a0_0 a0_1 l1).bind fun bt817=>(some (bt817.2 == 0))
theorem Qas.calls(k:Nat)(a:Int)(b:Int)(A1:Option Addr)(c1:Nat)(l1:List Int)(r:Bool)(w:World)(hr1:Kd.C (Kd.int .u8) w A1 l1.length l1)(hc1:l1.length≤c1)(h:Qas.f k a b l1=some r) :
  Calls Tryz.prog 54 #[.agg #[.int .u8 a,.int .u32 b],.slice A1 l1.length c1] w fun e w'=>e=.returned (.bool r)∧Below w.heap.size w w':=by
 have hu28:=Tryz.underlying28;have p:=QA hr1;have q:=QA hc1;clear hr1 hc1;have HB:=QA (Below.refl w.heap.size w);have H:((Qar.f k a b l1).bind fun bt817=>(some (bt817.2 == 0)))=some r:=h;clear h;replace H:=Option.bind_eq_some_iff.mp H;obtain⟨⟨n,j⟩,l,H⟩:=H;replace H:(some (j == 0))=some r:=H;have A3:=QA l;clear l;obtain rfl:=Option.some.inj H
 go_enter Tryz.func54,Tryz.ntmps54
 go_wp2_with (first |((with_reducible refine Qey (N:=2) rfl ?_);refine qq_e 2 #[.int .u8 a,.int .u32 b] 28 ?_;intro d hg w4 hbox hb;have n_:=qn4 (Qeo qq_b hb) (hbox) (qq_s hg:w.heap.size≤d) (qq_s hg:w.heap.size≤d);clear HB;obtain⟨HB,c,u,v⟩:=n_;clear hb hbox hg;obtain⟨s,t⟩:=qc2 c.out;have y:=Qdc c.out) |((with_reducible refine Qht (f:=53) rfl ?_);refine Qft (some 10) rfl rfl Tryz.func53 qq_4 rfl #[.agg #[.int .u8 a,.int .u32 b],.slice A1 l1.length c1] rfl qq_1 ?_;(with_reducible refine(Qar.calls k a b _ _ l1 n j _ ?side1 ?side2 A3.out).mono ?_);(case side1=>repeat(first|exact(Kd.C_below p.out HB.out) |(with_reducible refine Kd.C_alloc ?_ _) |(with_reducible refine Kd.C_drewN ?_ _) |(with_reducible refine Kd.C_drew ?_)));(case side2=>exact q.out);rintro e w6 ⟨z,rfl,m,hb⟩;refine⟨_,rfl,?_⟩;have n_:=qn3 (Kd.R_lower m (Qen qq_b)) (Qdo (g:=d) (o:=.cells #[.int .u8 a,.int .u32 b] 28 (0,0)) qq_0 hb) (Qeo qq_b hb);clear c HB;obtain⟨x,c,HB⟩:=n_;(try clear hb);(try clear hb2);(try clear hk);(try clear hi);(try clear m)))
 go_ret
 exact⟨qq_3,qq_b⟩
noncomputable def Qaz.f(k:Nat)  : Option (Bool):=(Qar.f k 12 1 ([]:List Int)).bind fun bt811=>((Qax.f).bind fun t815=>(if t815=true then(if bt811.2=0 then(some ((bt811.1.length:Int) == 0))else(some false))else(some false)))
theorem Qaz.calls(k:Nat) (r:Bool)(w:World)(h:Qaz.f k  = some r) :
  Calls Tryz.prog 50 #[] w fun e w'=>e=.returned (.bool r)∧Below w.heap.size w w':=by
 have hu28:=Tryz.underlying28;have HB:=QA (Below.refl w.heap.size w);have H:((Qar.f k 12 1 ([]:List Int)).bind fun bt811=>((Qax.f).bind fun d=>(if d=true then(if bt811.2=0 then(some ((bt811.1.length:Int) == 0))else(some false))else(some false))))=some r:=h;clear h;replace H:=Option.bind_eq_some_iff.mp H;obtain⟨⟨g,b⟩,l,H⟩:=H;replace H:((Qax.f).bind fun d=>(if d=true then(if b=0 then(some ((g.length:Int) == 0))else(some false))else(some false)))=some r:=H;have A1:=QA l;clear l;replace H:=Option.bind_eq_some_iff.mp H;obtain⟨d,m,H⟩:=H;have A2:=QA m;clear m
 by_cases c3:d=true
 ·subst c3;rw[if_pos rfl]at H
  by_cases c4:b=0
  ·rw[if_pos c4]at H;have n:(b == 0)=true:=beq_iff_eq.mpr c4;have o:(b != 0)=false:=bne_eq_false_iff_eq.mpr c4;clear c4;obtain rfl:=Option.some.inj H
   go_enter Tryz.func50,Tryz.ntmps50
   go_wp2_with (first |((with_reducible refine Qht (f:=53) rfl ?_);refine Qft (some 5) rfl rfl Tryz.func53 qq_4 rfl #[.agg #[.int .u8 12,.int .u32 1],.slice none 0 0] rfl qq_1 ?_;(refine(Qar.calls k 12 1 _ _ ([]:List Int) g b _ ?side1 ?side2 A1.out).mono ?_);(case side1=>exact Kd.C_nil _ _);(case side2=>exact Nat.le_refl _);rintro e w5 ⟨j,rfl,c,hb⟩;refine⟨_,rfl,?_⟩;have n_:=qn2 (Kd.R_lower c (Qen qq_b)) (Qeo qq_b hb);clear HB;obtain⟨a,HB⟩:=n_;(try clear hb);(try clear hb2);(try clear hk);(try clear hi);(try clear c)) |((with_reducible refine Qht (f:=47) rfl ?_);refine Qft (some 8) rfl rfl Tryz.func47 qq_4 rfl #[] rfl qq_1 ?_;(with_reducible refine(Qax.calls  true _ A2.out).mono ?_);rintro e w6 ⟨rfl,hb⟩;refine⟨_,rfl,?_⟩;have n_:=qn2 (Kd.R_below qq_6 hb) (Qeo qq_b hb);clear a HB;obtain⟨a,HB⟩:=n_;(try clear hb);(try clear hb2);(try clear hk);(try clear hi);obtain⟨Ao7,co7,eo7⟩:=Kd.R_slice a.out;subst eo7))
   go_ret
   exact⟨qq_3,qq_b⟩
  ·rw[if_neg c4]at H;have n:(b == 0)=false:=beq_eq_false_iff_ne.mpr c4;have o:(b != 0)=true:=bne_iff_ne.mpr c4;obtain rfl:=Option.some.inj H
   go_enter Tryz.func50,Tryz.ntmps50
   go_wp2_with (first |((with_reducible refine Qht (f:=53) rfl ?_);refine Qft (some 5) rfl rfl Tryz.func53 qq_4 rfl #[.agg #[.int .u8 12,.int .u32 1],.slice none 0 0] rfl qq_1 ?_;(refine(Qar.calls k 12 1 _ _ ([]:List Int) g b _ ?side1 ?side2 A1.out).mono ?_);(case side1=>exact Kd.C_nil _ _);(case side2=>exact Nat.le_refl _);rintro e w8 ⟨j,rfl,c,hb⟩;refine⟨_,rfl,?_⟩;have n_:=qn2 (Kd.R_lower c (Qen qq_b)) (Qeo qq_b hb);clear HB;obtain⟨a,HB⟩:=n_;(try clear hb);(try clear hb2);(try clear hk);(try clear hi);(try clear c)) |((with_reducible refine Qht (f:=47) rfl ?_);refine Qft (some 8) rfl rfl Tryz.func47 qq_4 rfl #[] rfl qq_1 ?_;(with_reducible refine(Qax.calls  true _ A2.out).mono ?_);rintro e w9 ⟨rfl,hb⟩;refine⟨_,rfl,?_⟩;have n_:=qn2 (Kd.R_below qq_6 hb) (Qeo qq_b hb);clear a HB;obtain⟨a,HB⟩:=n_;(try clear hb);(try clear hb2);(try clear hk);(try clear hi)))
   go_ret
   exact⟨qq_3,qq_b⟩
 ·replace c3:=Bool.eq_false_iff.mpr c3;subst c3;rw[if_neg (show ¬(false=true)by decide)]at H;obtain rfl:=Option.some.inj H
  go_enter Tryz.func50,Tryz.ntmps50
  go_wp2_with (first |((with_reducible refine Qht (f:=53) rfl ?_);refine Qft (some 5) rfl rfl Tryz.func53 qq_4 rfl #[.agg #[.int .u8 12,.int .u32 1],.slice none 0 0] rfl qq_1 ?_;(refine(Qar.calls k 12 1 _ _ ([]:List Int) g b _ ?side1 ?side2 A1.out).mono ?_);(case side1=>exact Kd.C_nil _ _);(case side2=>exact Nat.le_refl _);rintro e p ⟨j,rfl,c,hb⟩;refine⟨_,rfl,?_⟩;have n_:=qn2 (Kd.R_lower c (Qen qq_b)) (Qeo qq_b hb);clear HB;obtain⟨a,HB⟩:=n_;(try clear hb);(try clear hb2);(try clear hk);(try clear hi);(try clear c)) |((with_reducible refine Qht (f:=47) rfl ?_);refine Qft (some 8) rfl rfl Tryz.func47 qq_4 rfl #[] rfl qq_1 ?_;(with_reducible refine(Qax.calls  false _ A2.out).mono ?_);rintro e q ⟨rfl,hb⟩;refine⟨_,rfl,?_⟩;have n_:=qn2 (Kd.R_below qq_6 hb) (Qeo qq_b hb);clear a HB;obtain⟨a,HB⟩:=n_;(try clear hb);(try clear hb2);(try clear hk);(try clear hi)))
  go_ret
  exact⟨qq_3,qq_b⟩
end Go.Proofs.YteaocbonofboeaaGreat.C
end
section
namespace Go.Proofs.YteaocbonofboeaaGreat.C
open Go.RowKit Go.Proofs.YteaocbonofboeaaGreatW.PrintWords Go.Proofs.YteaocbonofboeaaGreatW.PrintLast Go.Proofs.YteaocbonofboeaaGreatW.PrintMore
attribute [local go_sem] Qhl Qhm Qhn Qho Qhp Qhq Qhr Qhs
attribute [local go_sem high] eqA37
def Qba.l0:Nat→List (S37)→List (S37)→Int→Int→Option (Bool)
 | 0,_,_,_,_=>none
 | k+1,x0,x1,x12,x13=>if x13<x12 then(if 0≤x13 then(if x13<(x0.length:Int)then(if x13<(x1.length:Int)then(if(!(((Qig x0 x13).f0) == ((Qig x1 x13).f0)) ||(!(((Qig x0 x13).f1) == ((Qig x1 x13).f1)) ||(!((((Qig x0 x13).f2).toList) == (((Qig x1 x13).f2).toList)) ||(!((((Qig x0 x13).f3).toList) == (((Qig x1 x13).f3).toList))))))=true then(some false)else(Qba.l0 k x0 x1 x12 (wrap64 (x13+1))))else(none))else(none))else(none))else(some true)
def Qba.f(k:Nat)(l0:List (S37))(l1:List (S37)):Option (Bool):=if(l0.length:Int)=(l1.length:Int)then(Qba.l0 k l0 l1 (l0.length:Int) 0)else(some false)
theorem Qba.calls (k:Nat) (A0:Option Addr) (c0:Nat) (l0:List (S37)) (A1:Option Addr) (c1:Nat) (l1:List (S37)) (r:Bool) (w:World) (hr0:Kd.C k37 w A0 l0.length l0) (hc0:l0.length≤c0) (hr1:Kd.C k37 w A1 l1.length l1) (hc1:l1.length≤c1) (h:Qba.f k l0 l1=some r) :
  Calls Tryz.prog 35 #[.slice A0 l0.length c0,.slice A1 l1.length c1] w fun e w'=>e=.returned (.bool r)∧Drawn0 w w':=by
 have hu37:=Tryz.underlying37;have B:=QA hr0;have M:=QA hc0;clear hr0 hc0;have D:=QA hr1;have O:=QA hc1;clear hr1 hc1;have H:(if(l0.length:Int)=(l1.length:Int)then(Qba.l0 k l0 l1 (l0.length:Int) 0)else(some false))=some r:=h;clear h
 by_cases c3:(l0.length:Int)=(l1.length:Int)
 ·rw [if_pos c3]at H;have v:((l0.length:Int) == (l1.length:Int))=true:=beq_iff_eq.mpr c3;have x:((l0.length:Int) != (l1.length:Int))=false:=bne_eq_false_iff_eq.mpr c3;have y:(l0.length == l1.length)=true:=by first|simpa using c3 |(simp at c3 ⊢;omega)
  clear c3;have H':=QA H;clear H
  go_enter Tryz.func35,Tryz.ntmps35
  go_wp2
  repeat(go_quiet (fail);try go_wp2)
  go_loopg [13] k (fun kq I w'=>∃(a:Int),I=.int .i64 a∧Aside0 (Qba.l0 kq l0 l1 (l0.length:Int) a=some r)∧Aside0 (kq≤k)∧Drawn0 w w')
  case atStart=>exact⟨(0),qq_8,H',⟨Nat.le_refl _⟩,by repeat(first|exact Drawn0.refl _|apply Drawn0.step)⟩
  case round =>
   clear H'
   try clear c1
   try clear c3
   try clear v
   try clear x
   try clear y
   obtain⟨a,rfl,HA,HK1,⟨m1,rfl⟩⟩:=hrel
   cases gk with
   | zero=>exact absurd HA.out (by simp[Qba.l0])
   | succ k1 =>
    have H:=HA.out;clear HA;simp only[Qba.l0]at H
    by_cases c4:a<(l0.length:Int)
    ·rw [if_pos c4]at H;have E:=decide_eq_true c4;clear c4
     by_cases c5:0≤a
     ·rw [if_pos c5]at H;have J:=decide_eq_true c5;clear c5
      by_cases c6:a<(l0.length:Int)
      ·rw[if_pos c6]at H;have K:=decide_eq_true c6;clear c6
       by_cases c7:a<(l1.length:Int)
       ·rw[if_pos c7]at H;have L:=decide_eq_true c7;clear c7
        by_cases c8:(!(((Qig l0 a).f0) == ((Qig l1 a).f0)) ||(!(((Qig l0 a).f1) == ((Qig l1 a).f1)) ||(!((((Qig l0 a).f2).toList) == (((Qig l1 a).f2).toList)) ||(!((((Qig l0 a).f3).toList) == (((Qig l1 a).f3).toList))))))=true
        ·rw[if_pos c8]at H;have G:(!(((Qig l0 a).f0) == ((Qig l1 a).f0)) ||(!(((Qig l0 a).f1) == ((Qig l1 a).f1)) ||(!((((Qig l0 a).f2).toList) == (((Qig l1 a).f2).toList)) ||(!((((Qig l0 a).f3).toList) == (((Qig l1 a).f3).toList))))))=true:=c8;clear c8;obtain rfl:=Option.some.inj H;have b:0≤(a:Int):=of_decide_eq_true qq_2;have c:a<(l0.length:Int):=of_decide_eq_true qq_2;obtain⟨z,j,m,n,o,p⟩:=Qih B.out a b c
         cases j
         replace b:=eq_true b;replace c:=eq_true c;have d:0≤(a:Int):=of_decide_eq_true qq_2;have g:a<(l1.length:Int):=of_decide_eq_true qq_2;obtain⟨A,l,q,s,t,u⟩:=Qih D.out a d g
         cases l
         replace d:=eq_true d;replace g:=eq_true g;go_wp2
         repeat(go_quiet (fail);try go_wp2)
         go_ret
         exact⟨by first|rfl |(simp;done) |(simp[*];done),by repeat(first|exact Drawn0.refl _|apply Drawn0.step)⟩
        ·rw[if_neg c8]at H;have G:(!(((Qig l0 a).f0) == ((Qig l1 a).f0)) ||(!(((Qig l0 a).f1) == ((Qig l1 a).f1)) ||(!((((Qig l0 a).f2).toList) == (((Qig l1 a).f2).toList)) ||(!((((Qig l0 a).f3).toList) == (((Qig l1 a).f3).toList))))))=false:=by simpa using c8
         clear c8;have H':=QA H;clear H;have b:0≤(a:Int):=of_decide_eq_true qq_2;have c:a<(l0.length:Int):=of_decide_eq_true qq_2;obtain⟨z,j,m,n,o,p⟩:=Qih B.out a b c
         cases j
         replace b:=eq_true b;replace c:=eq_true c;have d:0≤(a:Int):=of_decide_eq_true qq_2;have g:a<(l1.length:Int):=of_decide_eq_true qq_2;obtain⟨A,l,q,s,t,u⟩:=Qih D.out a d g
         cases l
         replace d:=eq_true d;replace g:=eq_true g;go_wp2
         repeat(go_quiet (fail);try go_wp2)
         go_roundg k1
         case measure=>have:=HK1.out;omega
         case rel=>exact⟨(wrap64 (a+1)),qq_8,H',⟨by have:=HK1.out;omega⟩,by repeat(first|exact Drawn0.refl _|apply Drawn0.step)⟩
       ·rw[if_neg c7]at H;exact absurd H (by simp)
      ·rw[if_neg c6]at H;exact absurd H (by simp)
     ·rw[if_neg c5]at H;exact absurd H (by simp)
    ·rw[if_neg c4]at H;have E:=decide_eq_false c4;clear c4;obtain rfl:=Option.some.inj H;go_wp2
     repeat(go_quiet (fail);try go_wp2)
     go_ret
     exact⟨by first|rfl |(simp;done) |(simp[*];done),by repeat(first|exact Drawn0.refl _|apply Drawn0.step)⟩
 ·rw[if_neg c3]at H;have v:((l0.length:Int) == (l1.length:Int))=false:=beq_eq_false_iff_ne.mpr c3;have x:((l0.length:Int) != (l1.length:Int))=true:=bne_iff_ne.mpr c3;have y:(l0.length == l1.length)=false:=by first|simpa using c3 |(simp at c3 ⊢;omega)
  obtain rfl:=Option.some.inj H
  go_enter Tryz.func35,Tryz.ntmps35
  go_wp2
  repeat(go_quiet (fail);try go_wp2)
  go_ret
  exact⟨by first|rfl |(simp;done) |(simp[*];done),by repeat(first|exact Drawn0.refl _|apply Drawn0.step)⟩
end Go.Proofs.YteaocbonofboeaaGreat.C
end
