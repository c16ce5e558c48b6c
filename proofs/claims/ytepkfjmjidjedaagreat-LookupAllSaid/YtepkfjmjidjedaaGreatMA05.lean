/- Merged texts. -/
import Derived.Test.YtepkfjmjidjedaaGreatMA02
import Derived.Test.YtepkfjmjidjedaaGreatMA04
import Derived.Test.YtepkfjmjidjedaaGreatMA03
set_option linter.unusedVariables false
set_option linter.unusedSimpArgs false
set_option maxHeartbeats 8000000
set_option maxRecDepth 100000
section
namespace Go.Proofs.YtepkfjmjidjedaaGreat.C
open Go.RowKit Go.Proofs.YtepkfjmjidjedaaGreatW.PrintWords Go.Proofs.YtepkfjmjidjedaaGreatW.PrintLast Go.Proofs.YtepkfjmjidjedaaGreatW.PrintMore
attribute [local go_sem] Qho Qhp Qhq Qhr Qhs Qht Qhu Qhv
mutual
def Qay.l0:Nat→List (S36)→List (S36)→Int→Int→Option ((List (S36)))
 | 0,_,_,_,_=>none
 | k+1,x3,x11,x12,x13=>if x13<x12 then(if 0≤x13 then(if x13<(x11.length:Int)then(Qay.l1 k ([]:List (S36)) false x11 x12 x13 x3 (x3.length:Int) 0 ((Qij x11 x13).f0) ((Qij x11 x13).f1) ((Qij x11 x13).f2) ((Qij x11 x13).f3))else(none))else(none))else(some x3)
def Qay.l1:Nat→List (S36)→Bool→List (S36)→Int→Int→List (S36)→Int→Int→Bool→Int→ByteArray→ByteArray→Option ((List (S36)))
 | 0,_,_,_,_,_,_,_,_,_,_,_,_=>none
 | k+1,x6,x7,x11,x12,x13,x17,x18,x19,x288000,x288001,x288002,x288003=>if x19<x18 then(if 0≤x19 then(if x19<(x17.length:Int)then(if x7=true then(if x6.length<2932031007402 then(Qay.l1 k (x6++[(⟨(Qij x17 x19).f0,(Qij x17 x19).f1,(Qij x17 x19).f2,(Qij x17 x19).f3⟩:S36)]) x7 x11 x12 x13 x17 x18 (wrap64 (x19+1)) x288000 x288001 x288002 x288003)else(none))else(if(Op.bytesLess x288002.toList (((Qij x17 x19).f2).toList))=true then(if x6.length<2932031007402 then((some (x6++[(⟨x288000,x288001,x288002,x288003⟩:S36)]:List (S36))).bind fun y293=>(if y293.length<2932031007402 then(Qay.l1 k (y293++[(⟨(Qij x17 x19).f0,(Qij x17 x19).f1,(Qij x17 x19).f2,(Qij x17 x19).f3⟩:S36)]) true x11 x12 x13 x17 x18 (wrap64 (x19+1)) x288000 x288001 x288002 x288003)else(none)))else(none))else(if x6.length<2932031007402 then(Qay.l1 k (x6++[(⟨(Qij x17 x19).f0,(Qij x17 x19).f1,(Qij x17 x19).f2,(Qij x17 x19).f3⟩:S36)]) x7 x11 x12 x13 x17 x18 (wrap64 (x19+1)) x288000 x288001 x288002 x288003)else(none))))else(none))else(none))else(if x7=true then(Qay.l0 k x6 x11 x12 (wrap64 (x13+1)))else(if x6.length<2932031007402 then(Qay.l0 k (x6++[(⟨x288000,x288001,x288002,x288003⟩:S36)]) x11 x12 (wrap64 (x13+1)))else(none)))
end
def Qay.f(k:Nat)(l0:List (S36)):Option ((List (S36))):=(Qaz.f k l0).bind fun t283=>(Qay.l0 k ([]:List (S36)) t283 (t283.length:Int) 0)
theorem Qay.calls (k:Nat) (A0:Option Addr) (c0:Nat) (l0:List (S36)) (r:List (S36)) (w:World) (hr0:Kd.C k36 w A0 l0.length l0) (hc0:l0.length≤c0) (h:Qay.f k l0=some r) :
  Calls Tryz.prog 36 #[.slice A0 l0.length c0] w fun e w'=>∃aW:Value,e=.returned (aW)∧Kd.R k36 36 w' w.heap.size (fun _=>True) aW r∧Below w.heap.size w w':=by
 have hu36:=Tryz.underlying36;have bJ:=QA hr0;have bK:=QA hc0;clear hr0 hc0;have HB:=QA (Below.refl w.heap.size w);have H:((Qaz.f k l0).bind fun c=>(Qay.l0 k ([]:List (S36)) c (c.length:Int) 0))=some r:=h;clear h;replace H:=Option.bind_eq_some_iff.mp H;obtain⟨c,aX,H⟩:=H;have A2:=QA aX;clear aX;have H':=QA H;clear H
 go_enter Tryz.func36,Tryz.ntmps36
 go_wp2_with (first |((with_reducible refine Qhw (f:=70) rfl ?_);refine Qfz (some 11) rfl rfl Tryz.func70 qq_5 rfl #[.slice A0 l0.length c0] rfl qq_1 ?_;(with_reducible refine(Qaz.calls k _ _ l0 c _ ?side1 ?side2 A2.out).mono ?_);(case side1=>repeat(first|exact bJ.out |(with_reducible refine Kd.C_alloc ?_ _) |(with_reducible refine Kd.C_drewN ?_ _) |(with_reducible refine Kd.C_drew ?_)));(case side2=>exact bK.out);rintro e w3 ⟨b4,rfl,aY,hb⟩;refine⟨_,rfl,?_⟩;have n_:=qn2 (Kd.R_lower aY (Qer qq_b)) (Qes qq_b hb);clear HB;obtain⟨Z,HB⟩:=n_;(try clear hb);(try clear hb2);(try clear hk);(try clear hi);(try clear aY);obtain⟨Ao4,co4,eo4⟩:=Kd.R_slice Z.out;subst eo4))
 go_loopg [3,13] k (fun kq v3 bL w'=>∃(x3_1:List (S36)) (a:Int),bL=.int .i64 a∧Aside0 (Qay.l0 kq x3_1 c (c.length:Int) a=some r)∧Aside0 (kq≤k)∧Aside0 (Kd.R k36 36 w' w.heap.size (fun k_=>some k_≠((.slice Ao4 c.length co4):Value).ownBlock) v3 x3_1)∧Aside0 (Kd.R k36 36 w' w.heap.size (fun k_=>some k_≠(v3:Value).ownBlock) (.slice Ao4 c.length co4) c)∧Aside0 (Below w.heap.size w w'))
 case atStart=>exact⟨(([]:List (S36))),(0),qq_7,H',⟨Nat.le_refl _⟩,⟨by first|exact Kd.R_nil _ _ _ _ _|exact Kd.N_nil _ _ _ _ _|exact Kd.V_nil _ _ _ _ _|exact Kd.Q_nil _ _ _ _ _|exact Kd.S_nil _ _ _ _ _⟩,⟨by(with_reducible repeat(first|apply Kd.R_alloc|apply Kd.R_drewN|apply Kd.R_drew));exact Kd.R_mono Z.out (fun _ hk=>(by simp[Value.ownBlock]))⟩,⟨qq_b⟩⟩
 case round =>
  clear H';obtain⟨x3_1,a,rfl,HA,HK1,E,HO_11,HB⟩:=hrel
  cases gk with
  | zero=>exact absurd HA.out (by simp[Qay.l0])
  | succ k1 =>
   have H:=HA.out;clear HA;simp only[Qay.l0]at H
   by_cases c5:a<(c.length:Int)
   ·rw [if_pos c5]at H;have ap:=decide_eq_true c5;clear c5
    by_cases c6:0≤a
    ·rw [if_pos c6]at H;have aZ:=decide_eq_true c6;clear c6
     by_cases c7:a<(c.length:Int)
     ·rw [if_pos c7]at H;have ba:=decide_eq_true c7;clear c7;have H':=QA H;clear H;have X:0≤(a:Int):=of_decide_eq_true qq_3;have Y:a<(c.length:Int):=of_decide_eq_true qq_3;obtain⟨m,bb,al,am,an,ao⟩:=Qik (Kd.R_reads' HO_11.out).2.2 a X Y
      cases bb
      replace X:=eq_true X;replace Y:=eq_true Y
      go_wp2_with (first |((with_reducible refine Qfc (N:=5) rfl ?_);refine qq_e 5 #[.bool false,.int .u64 0,.string (⟨#[]⟩:ByteArray),.string (⟨#[]⟩:ByteArray)] 36 ?_;intro d hg w8 hbox hb;have n_:=qn6 (Kd.R_below (Kd.R_elderB (by(with_reducible repeat(first|apply Kd.R_alloc|apply Kd.R_drewN|apply Kd.R_drew));exact E.out) d (Nat.le_of_eq hg.symm)) hb) (Kd.R_below (Kd.R_elderB qq_16 d (Nat.le_of_eq hg.symm)) hb) (Qes qq_b hb) (hbox) (qq_s hg:w.heap.size≤d) (qq_s hg:w.heap.size≤d);clear E HO_11 HB;obtain⟨E,HO_11,HB,j,bN,bO⟩:=n_;clear hb hbox hg;obtain⟨aq,ar,au,av⟩:=qc4 j.out;have bc:=Qdg j.out;obtain⟨Ao10,co10,eo10⟩:=Kd.R_slice E.out;subst eo10))
      go_loopg [6,7,19] k1 (fun kq v6 v7 bM w'=>∃(n:List (S36)) (I:Bool) (x19_2:Int),v7=.bool I∧bM=.int .i64 x19_2∧Aside0 (Qay.l1 kq n I c (c.length:Int) a x3_1 (x3_1.length:Int) x19_2 ((Qij c a).f0) ((Qij c a).f1) ((Qij c a).f2) ((Qij c a).f3)=some r)∧Aside0 (kq≤k1)∧Aside0 (Kd.R k36 36 w' w.heap.size (fun k_=>some k_≠((.slice (some m) c.length co4):Value).ownBlock∧some k_≠((.slice Ao10 x3_1.length co10):Value).ownBlock∧k_≠d) v6 n)∧Aside0 (Kd.R k36 36 w' w.heap.size (fun k_=>some k_≠(v6:Value).ownBlock∧some k_≠((.slice Ao10 x3_1.length co10):Value).ownBlock∧k_≠d) (.slice (some m) c.length co4) c)∧Aside0 (Kd.R k36 36 w' w.heap.size (fun k_=>some k_≠(v6:Value).ownBlock∧some k_≠((.slice (some m) c.length co4):Value).ownBlock∧k_≠d) (.slice Ao10 x3_1.length co10) x3_1)∧Aside0 (w'.heap[d]? = some (.cells #[.bool ((Qij c a).f0),.int .u64 ((Qij c a).f1),.string ((Qij c a).f2),.string ((Qij c a).f3)] 36 (0,0)))∧Aside0 (Below w.heap.size w w'))
      case atStart=>exact⟨(([]:List (S36))),(false),(0),qq_7,qq_7,H',⟨Nat.le_refl _⟩,⟨by first|exact Kd.R_nil _ _ _ _ _|exact Kd.N_nil _ _ _ _ _|exact Kd.V_nil _ _ _ _ _|exact Kd.Q_nil _ _ _ _ _|exact Kd.S_nil _ _ _ _ _⟩,⟨by(with_reducible repeat(first|apply Kd.R_alloc|apply Kd.R_drewN|apply Kd.R_drew));exact Kd.R_mono (Kd.R_far (p:=⟨d,3,none⟩) (Kd.R_far (p:=⟨d,2,none⟩) (Kd.R_far (p:=⟨d,1,none⟩) (Kd.R_far (p:=⟨d,0,none⟩) (Kd.R_mono HO_11.out (fun k_ hk=>(⟨hk,hk.2⟩:_∧k_≠d))) (fun _ hk=>hk.2) (.bool ((Qij c a).f0))) (fun _ hk=>hk.2) (.int .u64 ((Qij c a).f1))) (fun _ hk=>hk.2) (.string ((Qij c a).f2))) (fun _ hk=>hk.2) (.string ((Qij c a).f3))) (fun _ hk=>⟨(by simp[Value.ownBlock]),⟨hk.1.1,hk.1.2⟩⟩)⟩,⟨by(with_reducible repeat(first|apply Kd.R_alloc|apply Kd.R_drewN|apply Kd.R_drew));exact Kd.R_mono (Kd.R_far (p:=⟨d,3,none⟩) (Kd.R_far (p:=⟨d,2,none⟩) (Kd.R_far (p:=⟨d,1,none⟩) (Kd.R_far (p:=⟨d,0,none⟩) (Kd.R_mono E.out (fun k_ hk=>(⟨hk,hk.2⟩:_∧k_≠d))) (fun _ hk=>hk.2) (.bool ((Qij c a).f0))) (fun _ hk=>hk.2) (.int .u64 ((Qij c a).f1))) (fun _ hk=>hk.2) (.string ((Qij c a).f2))) (fun _ hk=>hk.2) (.string ((Qij c a).f3))) (fun _ hk=>⟨(by simp[Value.ownBlock]),⟨hk.1.1,hk.1.2⟩⟩)⟩,⟨by(with_reducible repeat(first|apply Qdr|apply Qdq|apply Qdp));refine Qey (cs:=#[.bool ((Qij c a).f0),.int .u64 ((Qij c a).f1),.string ((Qij c a).f2),.string (⟨#[]⟩:ByteArray)]) ?_ 3 _ rfl;(with_reducible repeat(first|apply Qdr|apply Qdq|apply Qdp));refine Qey (cs:=#[.bool ((Qij c a).f0),.int .u64 ((Qij c a).f1),.string (⟨#[]⟩:ByteArray),.string (⟨#[]⟩:ByteArray)]) ?_ 2 _ rfl;(with_reducible repeat(first|apply Qdr|apply Qdq|apply Qdp));refine Qey (cs:=#[.bool ((Qij c a).f0),.int .u64 0,.string (⟨#[]⟩:ByteArray),.string (⟨#[]⟩:ByteArray)]) ?_ 1 _ rfl;(with_reducible repeat(first|apply Qdr|apply Qdq|apply Qdp));refine Qey (cs:=#[.bool false,.int .u64 0,.string (⟨#[]⟩:ByteArray),.string (⟨#[]⟩:ByteArray)]) ?_ 0 _ rfl;(with_reducible repeat(first|apply Qdr|apply Qdq|apply Qdp));exact j.out⟩,⟨qq_b⟩⟩
      case round =>
       clear H'
       try clear c5
       try clear ap
       try clear c6
       try clear aZ
       try clear c7
       try clear ba
       try clear aq
       try clear ar
       try clear au
       try clear av
       try clear bc
       try clear al
       try clear am
       try clear an
       try clear ao
       try clear X
       try clear Y
       obtain⟨n,I,x19_2,rfl,rfl,HA,HK2,HO_6,HO_11,HO_17,j,HB⟩:=hrel
       cases gk with
       | zero=>exact absurd HA.out (by simp[Qay.l1])
       | succ k2 =>
        have H:=HA.out;clear HA;simp only[Qay.l1]at H
        by_cases M:x19_2<(x3_1.length:Int)
        ·rw [if_pos M]at H;have aA:=decide_eq_true M;clear M
         by_cases aa:0≤x19_2
         ·rw [if_pos aa]at H;have bP:=decide_eq_true aa;clear aa
          by_cases ab:x19_2<(x3_1.length:Int)
          ·rw [if_pos ab]at H;have bQ:=decide_eq_true ab;clear ab
           by_cases ac:I=true
           ·subst ac;rw[if_pos rfl]at H
            by_cases ad:n.length<2932031007402
            ·rw[if_pos ad]at H;have aC:=QA ad;clear ad;obtain⟨aw,y⟩:∃y_:List (S36),y_=(n++[(⟨(Qij x3_1 x19_2).f0,(Qij x3_1 x19_2).f1,(Qij x3_1 x19_2).f2,(Qij x3_1 x19_2).f3⟩:S36)]):=⟨_,rfl⟩;replace H:(Qay.l1 k2 aw true c (c.length:Int) a x3_1 (x3_1.length:Int) (wrap64 (x19_2+1)) ((Qij c a).f0) ((Qij c a).f1) ((Qij c a).f2) ((Qij c a).f3))=some r:=by first |(rw[y];with_reducible exact H) |(have q:=(Option.bind_some _ _).symm.trans H;rw[y];with_reducible exact q) |(have q:=(Option.bind_some _ _).symm.trans H;with_reducible exact q)|with_reducible exact H |(rw[y];exact H)|exact H
             have aD:=QA y;clear y;have H':=QA H;clear H;have v:0≤(x19_2:Int):=of_decide_eq_true qq_3;have x:x19_2<(x3_1.length:Int):=of_decide_eq_true qq_3;obtain⟨s,J,O,P,T,U⟩:=Qik (Kd.R_reads' HO_17.out).2.2 x19_2 v x
             cases J
             replace v:=eq_true v;replace x:=eq_true x
             go_wp2_with (first |((with_reducible refine Qfc (N:=9) rfl ?_);refine qq_e 9 #[.bool false,.int .u64 0,.string (⟨#[]⟩:ByteArray),.string (⟨#[]⟩:ByteArray)] 36 ?_;intro gb289 hg b9 hbox hb;have n_:=qn10 (Kd.R_below (Kd.R_elderB qq_29 gb289 (Nat.le_of_eq hg.symm)) hb) (Kd.R_below (Kd.R_elderB qq_16 gb289 (Nat.le_of_eq hg.symm)) hb) (Kd.R_below (Kd.R_elderB qq_18 gb289 (Nat.le_of_eq hg.symm)) hb) (Qds (g:=d) (o:=.cells #[.bool ((Qij c a).f0),.int .u64 ((Qij c a).f1),.string ((Qij c a).f2),.string ((Qij c a).f3)] 36 (0,0)) qq_0 hb) (Qes qq_b hb) (hbox) (qq_s hg:w.heap.size≤gb289) (qq_s hg:w.heap.size≤gb289) ((by rw[hg];exact Nat.ne_of_lt (Qde (g:=d) (o:=.cells #[.bool ((Qij c a).f0),.int .u64 ((Qij c a).f1),.string ((Qij c a).f2),.string ((Qij c a).f3)] 36 (0,0)) qq_0):d≠gb289)) ((by rw[hg];exact Nat.ne_of_gt (Qde (g:=d) (o:=.cells #[.bool ((Qij c a).f0),.int .u64 ((Qij c a).f1),.string ((Qij c a).f2),.string ((Qij c a).f3)] 36 (0,0)) qq_0):gb289≠d));clear HO_6 HO_11 HO_17 j HB;obtain⟨HO_6,HO_11,HO_17,j,HB,l,ae,af,t,u⟩:=n_;clear hb hbox hg;have bR:=u.out;have bS:=t.out;obtain⟨be,bf,bg,bh⟩:=qc4 l.out;have bT:=Qdg l.out) |((with_reducible refine Qhx (b:=.append) (xs:=#[.tmp 36,.tmp 38]) rfl ?_);at_builtin;refine Kd.R_append k36 (w0:=w) w.heap.size rfl (.tmp 36) (.tmp 38) 22 36 (.agg #[(.bool false),(.int .u64 0),(.string ⟨#[]⟩),(.string ⟨#[]⟩)]) 48 rfl Tryz.underlying22 Qif rfl (by decide) (by omega) u6 n (⟨(Qij x3_1 x19_2).f0,(Qij x3_1 x19_2).f1,(Qij x3_1 x19_2).f2,(Qij x3_1 x19_2).f3⟩:S36) [.bool ((Qij x3_1 x19_2).f0),.int .u64 ((Qij x3_1 x19_2).f1),.string ((Qij x3_1 x19_2).f2),.string ((Qij x3_1 x19_2).f3)] (fun k_=>some k_≠(.slice (some m) c.length co4:Value).ownBlock∧some k_≠(.slice (some s) x3_1.length co10:Value).ownBlock∧k_≠d∧k_≠gb289) (fun _=>False) rfl qq_23 ?aP (fun _ hk=>hk.elim) ?aF ?aO ?aB ?aS ?aL ?_;(case aP=>exact Qii _ _ _ (⟨(Qij x3_1 x19_2).f0,(Qij x3_1 x19_2).f1,(Qij x3_1 x19_2).f2,(Qij x3_1 x19_2).f3⟩:S36));(case aB=>exact qq_b);(case aF=>exact(fun k_ hk=>⟨Kd.fresh' (Kd.R_lt qq_15) k_ hk,Kd.fresh' (Kd.R_lt qq_14) k_ hk,Kd.freshB (g:=d) (o:=.cells #[.bool ((Qij c a).f0),.int .u64 ((Qij c a).f1),.string ((Qij c a).f2),.string ((Qij c a).f3)] 36 (0,0)) qq_6 k_ hk,Kd.freshB (g:=gb289) (o:=.cells #[.bool ((Qij x3_1 x19_2).f0),.int .u64 ((Qij x3_1 x19_2).f1),.string ((Qij x3_1 x19_2).f2),.string ((Qij x3_1 x19_2).f3)] 36 (0,0)) qq_x k_ hk⟩));(case aO=>exact qq_13);(case aS=>exact(Qer qq_b));(case aL=>have:=aC.out;omega);intro b5 ca ho hb hg hat;rw[← aD.out]at ho;have n_:=qn6 (Kd.R_after (ok:=(fun k_=>some k_≠(.slice (some s) x3_1.length co10:Value).ownBlock∧k_≠d∧k_≠gb289)) qq_12 hg hat) (Kd.R_after (ok:=(fun k_=>some k_≠(.slice (some m) c.length co4:Value).ownBlock∧k_≠d∧k_≠gb289)) qq_11 hg hat) (Qdh (g:=d) (o:=.cells #[.bool ((Qij c a).f0),.int .u64 ((Qij c a).f1),.string ((Qij c a).f2),.string ((Qij c a).f3)] 36 (0,0)) qq_6 hg (Kd.R_away HO_6.out (fun _ hk=>hk.1.2.2))) (Qdh (g:=gb289) (o:=.cells #[.bool ((Qij x3_1 x19_2).f0),.int .u64 ((Qij x3_1 x19_2).f1),.string ((Qij x3_1 x19_2).f2),.string ((Qij x3_1 x19_2).f3)] 36 (0,0)) qq_x hg (Kd.R_away HO_6.out (fun _ hk=>hk.2))) (hb) (ho);clear HO_11 HO_17 j l HB HO_6;obtain⟨HO_11,HO_17,j,l,HB,aE⟩:=n_;clear ho hb hg hat))
             go_roundg k2
             case measure=>have:=HK1.out;have:=HK2.out;omega
             case rel=>exact⟨(aw),(true),(wrap64 (x19_2+1)),qq_7,qq_7,H',⟨by have:=HK1.out;have:=HK2.out;omega⟩,⟨by(with_reducible repeat(first|apply Kd.R_alloc|apply Kd.R_drewN|apply Kd.R_drew));exact Kd.R_mono aE.out (fun _ hk=>⟨hk.1,⟨hk.2.1,hk.2.2.1⟩⟩)⟩,⟨by(with_reducible repeat(first|apply Kd.R_alloc|apply Kd.R_drewN|apply Kd.R_drew));exact Kd.R_mono HO_11.out (fun _ hk=>⟨hk.2,⟨hk.1.1,hk.1.2.1⟩⟩)⟩,⟨by(with_reducible repeat(first|apply Kd.R_alloc|apply Kd.R_drewN|apply Kd.R_drew));exact Kd.R_mono HO_17.out (fun _ hk=>⟨hk.2,⟨hk.1.1,hk.1.2.1⟩⟩)⟩,⟨by(with_reducible repeat(first|apply Qdr|apply Qdq|apply Qdp));exact j.out⟩,⟨qq_b⟩⟩
            ·rw[if_neg ad]at H;exact absurd H (by simp)
           ·replace ac:=Bool.eq_false_iff.mpr ac;subst ac;rw[if_neg (show ¬(false=true)by decide)]at H
            by_cases W:(Op.bytesLess ((Qij c a).f2).toList (((Qij x3_1 x19_2).f2).toList))=true
            ·rw[if_pos W]at H;have aG:(Op.bytesLess ((Qij c a).f2).toList (((Qij x3_1 x19_2).f2).toList))=true:=W;clear W
             by_cases ag:n.length<2932031007402
             ·rw[if_pos ag]at H;have aH:=QA ag;clear ag;obtain⟨L,z⟩:∃y_:List (S36),y_=(n++[(⟨((Qij c a).f0),((Qij c a).f1),((Qij c a).f2),((Qij c a).f3)⟩:S36)]):=⟨_,rfl⟩;replace H:(if L.length<2932031007402 then(Qay.l1 k2 (L++[(⟨(Qij x3_1 x19_2).f0,(Qij x3_1 x19_2).f1,(Qij x3_1 x19_2).f2,(Qij x3_1 x19_2).f3⟩:S36)]) true c (c.length:Int) a x3_1 (x3_1.length:Int) (wrap64 (x19_2+1)) ((Qij c a).f0) ((Qij c a).f1) ((Qij c a).f2) ((Qij c a).f3))else(none))=some r:=by first |(rw[z];with_reducible exact H) |(have q:=(Option.bind_some _ _).symm.trans H;rw[z];with_reducible exact q) |(have q:=(Option.bind_some _ _).symm.trans H;with_reducible exact q)|with_reducible exact H |(rw[z];exact H)|exact H
              have aI:=QA z;clear z
              by_cases ah:L.length<2932031007402
              ·rw[if_pos ah]at H;have aJ:=QA ah;clear ah;obtain⟨ax,A⟩:∃y_:List (S36),y_=(L++[(⟨(Qij x3_1 x19_2).f0,(Qij x3_1 x19_2).f1,(Qij x3_1 x19_2).f2,(Qij x3_1 x19_2).f3⟩:S36)]):=⟨_,rfl⟩;replace H:(Qay.l1 k2 ax true c (c.length:Int) a x3_1 (x3_1.length:Int) (wrap64 (x19_2+1)) ((Qij c a).f0) ((Qij c a).f1) ((Qij c a).f2) ((Qij c a).f3))=some r:=by first |(rw[A];with_reducible exact H) |(have q:=(Option.bind_some _ _).symm.trans H;rw[A];with_reducible exact q) |(have q:=(Option.bind_some _ _).symm.trans H;with_reducible exact q)|with_reducible exact H |(rw[A];exact H)|exact H
               have aK:=QA A;clear A;have H':=QA H;clear H;have v:0≤(x19_2:Int):=of_decide_eq_true qq_3;have x:x19_2<(x3_1.length:Int):=of_decide_eq_true qq_3;obtain⟨s,J,O,P,T,U⟩:=Qik (Kd.R_reads' HO_17.out).2.2 x19_2 v x
               cases J
               replace v:=eq_true v;replace x:=eq_true x
               go_wp2_with (first |((with_reducible refine Qfc (N:=9) rfl ?_);refine qq_e 9 #[.bool false,.int .u64 0,.string (⟨#[]⟩:ByteArray),.string (⟨#[]⟩:ByteArray)] 36 ?_;intro gb289 hg cb hbox hb;have n_:=qn10 (Kd.R_below (Kd.R_elderB qq_29 gb289 (Nat.le_of_eq hg.symm)) hb) (Kd.R_below (Kd.R_elderB qq_16 gb289 (Nat.le_of_eq hg.symm)) hb) (Kd.R_below (Kd.R_elderB qq_18 gb289 (Nat.le_of_eq hg.symm)) hb) (Qds (g:=d) (o:=.cells #[.bool ((Qij c a).f0),.int .u64 ((Qij c a).f1),.string ((Qij c a).f2),.string ((Qij c a).f3)] 36 (0,0)) qq_0 hb) (Qes qq_b hb) (hbox) (qq_s hg:w.heap.size≤gb289) (qq_s hg:w.heap.size≤gb289) ((by rw[hg];exact Nat.ne_of_lt (Qde (g:=d) (o:=.cells #[.bool ((Qij c a).f0),.int .u64 ((Qij c a).f1),.string ((Qij c a).f2),.string ((Qij c a).f3)] 36 (0,0)) qq_0):d≠gb289)) ((by rw[hg];exact Nat.ne_of_gt (Qde (g:=d) (o:=.cells #[.bool ((Qij c a).f0),.int .u64 ((Qij c a).f1),.string ((Qij c a).f2),.string ((Qij c a).f3)] 36 (0,0)) qq_0):gb289≠d));clear HO_6 HO_11 HO_17 j HB;obtain⟨HO_6,HO_11,HO_17,j,HB,l,ae,af,t,u⟩:=n_;clear hb hbox hg;have bU:=u.out;have bV:=t.out;obtain⟨bi,bj,bk,bl⟩:=qc4 l.out;have bW:=Qdg l.out;obtain⟨bn,bo,bp,bq⟩:=qc4 j.out;have bX:=Qdg j.out) |((with_reducible refine Qhx (b:=.append) (xs:=#[.tmp 32,.tmp 34]) rfl ?_);at_builtin;refine Kd.R_append k36 (w0:=w) w.heap.size rfl (.tmp 32) (.tmp 34) 22 36 (.agg #[(.bool false),(.int .u64 0),(.string ⟨#[]⟩),(.string ⟨#[]⟩)]) 48 rfl Tryz.underlying22 Qif rfl (by decide) (by omega) u6 n (⟨((Qij c a).f0),((Qij c a).f1),((Qij c a).f2),((Qij c a).f3)⟩:S36) [.bool ((Qij c a).f0),.int .u64 ((Qij c a).f1),.string ((Qij c a).f2),.string ((Qij c a).f3)] (fun k_=>some k_≠(.slice (some m) c.length co4:Value).ownBlock∧some k_≠(.slice (some s) x3_1.length co10:Value).ownBlock∧k_≠d∧k_≠gb289) (fun _=>False) rfl qq_23 ?aP (fun _ hk=>hk.elim) ?aF ?aO ?aB ?aS ?aL ?_;(case aP=>exact Qii _ _ _ (⟨((Qij c a).f0),((Qij c a).f1),((Qij c a).f2),((Qij c a).f3)⟩:S36));(case aB=>exact qq_b);(case aF=>exact(fun k_ hk=>⟨Kd.fresh' (Kd.R_lt qq_15) k_ hk,Kd.fresh' (Kd.R_lt qq_14) k_ hk,Kd.freshB (g:=d) (o:=.cells #[.bool ((Qij c a).f0),.int .u64 ((Qij c a).f1),.string ((Qij c a).f2),.string ((Qij c a).f3)] 36 (0,0)) qq_6 k_ hk,Kd.freshB (g:=gb289) (o:=.cells #[.bool ((Qij x3_1 x19_2).f0),.int .u64 ((Qij x3_1 x19_2).f1),.string ((Qij x3_1 x19_2).f2),.string ((Qij x3_1 x19_2).f3)] 36 (0,0)) qq_x k_ hk⟩));(case aO=>exact qq_13);(case aS=>exact(Qer qq_b));(case aL=>have:=aH.out;omega);intro bd cc ho hb hg hat;rw[← aI.out]at ho;have n_:=qn6 (Kd.R_after (ok:=(fun k_=>some k_≠(.slice (some s) x3_1.length co10:Value).ownBlock∧k_≠d∧k_≠gb289)) qq_12 hg hat) (Kd.R_after (ok:=(fun k_=>some k_≠(.slice (some m) c.length co4:Value).ownBlock∧k_≠d∧k_≠gb289)) qq_11 hg hat) (Qdh (g:=d) (o:=.cells #[.bool ((Qij c a).f0),.int .u64 ((Qij c a).f1),.string ((Qij c a).f2),.string ((Qij c a).f3)] 36 (0,0)) qq_6 hg (Kd.R_away HO_6.out (fun _ hk=>hk.1.2.2))) (Qdh (g:=gb289) (o:=.cells #[.bool ((Qij x3_1 x19_2).f0),.int .u64 ((Qij x3_1 x19_2).f1),.string ((Qij x3_1 x19_2).f2),.string ((Qij x3_1 x19_2).f3)] 36 (0,0)) qq_x hg (Kd.R_away HO_6.out (fun _ hk=>hk.2))) (hb) (ho);clear HO_11 HO_17 j l HB HO_6;obtain⟨HO_11,HO_17,j,l,HB,G⟩:=n_;clear ho hb hg hat;obtain⟨br,bs,bu,bv⟩:=qc4 l.out;have bY:=Qdg l.out) |((with_reducible refine Qhx (b:=.append) (xs:=#[.tmp 36,.tmp 38]) rfl ?_);at_builtin;refine Kd.R_append k36 (w0:=w) w.heap.size rfl (.tmp 36) (.tmp 38) 22 36 (.agg #[(.bool false),(.int .u64 0),(.string ⟨#[]⟩),(.string ⟨#[]⟩)]) 48 rfl Tryz.underlying22 Qif rfl (by decide) (by omega) bd L (⟨(Qij x3_1 x19_2).f0,(Qij x3_1 x19_2).f1,(Qij x3_1 x19_2).f2,(Qij x3_1 x19_2).f3⟩:S36) [.bool ((Qij x3_1 x19_2).f0),.int .u64 ((Qij x3_1 x19_2).f1),.string ((Qij x3_1 x19_2).f2),.string ((Qij x3_1 x19_2).f3)] (fun k_=>some k_≠(.slice (some m) c.length co4:Value).ownBlock∧some k_≠(.slice (some s) x3_1.length co10:Value).ownBlock∧k_≠d∧k_≠gb289) (fun _=>False) rfl rfl ?aP (fun _ hk=>hk.elim) ?aF ?aO ?aB ?aS ?aL ?_;(case aP=>exact Qii _ _ _ (⟨(Qij x3_1 x19_2).f0,(Qij x3_1 x19_2).f1,(Qij x3_1 x19_2).f2,(Qij x3_1 x19_2).f3⟩:S36));(case aB=>exact qq_b);(case aF=>exact(fun k_ hk=>⟨Kd.fresh' (Kd.R_lt qq_16) k_ hk,Kd.fresh' (Kd.R_lt qq_18) k_ hk,Kd.freshB (g:=d) (o:=.cells #[.bool ((Qij c a).f0),.int .u64 ((Qij c a).f1),.string ((Qij c a).f2),.string ((Qij c a).f3)] 36 (0,0)) qq_0 k_ hk,Kd.freshB (g:=gb289) (o:=.cells #[.bool ((Qij x3_1 x19_2).f0),.int .u64 ((Qij x3_1 x19_2).f1),.string ((Qij x3_1 x19_2).f2),.string ((Qij x3_1 x19_2).f3)] 36 (0,0)) qq_0 k_ hk⟩));(case aO=>exact(by(with_reducible repeat(first|apply Kd.R_alloc|apply Kd.R_drewN|apply Kd.R_drew));exact G.out));(case aS=>exact(Qer qq_b));(case aL=>have:=aJ.out;omega);intro b6 cd ho hb hg hat;rw[← aK.out]at ho;have n_:=qn6 (Kd.R_after (ok:=(fun k_=>some k_≠(.slice (some s) x3_1.length co10:Value).ownBlock∧k_≠d∧k_≠gb289)) qq_16 hg hat) (Kd.R_after (ok:=(fun k_=>some k_≠(.slice (some m) c.length co4:Value).ownBlock∧k_≠d∧k_≠gb289)) qq_18 hg hat) (Qdh (g:=d) (o:=.cells #[.bool ((Qij c a).f0),.int .u64 ((Qij c a).f1),.string ((Qij c a).f2),.string ((Qij c a).f3)] 36 (0,0)) qq_0 hg (Kd.R_away G.out (fun _ hk=>hk.2.2.1))) (Qdh (g:=gb289) (o:=.cells #[.bool ((Qij x3_1 x19_2).f0),.int .u64 ((Qij x3_1 x19_2).f1),.string ((Qij x3_1 x19_2).f2),.string ((Qij x3_1 x19_2).f3)] 36 (0,0)) qq_0 hg (Kd.R_away G.out (fun _ hk=>hk.2.2.2))) (hb) (ho);clear HO_11 HO_17 j l HB G;obtain⟨HO_11,HO_17,j,l,HB,aM⟩:=n_;clear ho hb hg hat))
               go_roundg k2
               case measure=>have:=HK1.out;have:=HK2.out;omega
               case rel=>exact⟨(ax),(true),(wrap64 (x19_2+1)),qq_7,qq_7,H',⟨by have:=HK1.out;have:=HK2.out;omega⟩,⟨by(with_reducible repeat(first|apply Kd.R_alloc|apply Kd.R_drewN|apply Kd.R_drew));exact Kd.R_mono aM.out (fun _ hk=>⟨hk.1,⟨hk.2.1,hk.2.2.1⟩⟩)⟩,⟨by(with_reducible repeat(first|apply Kd.R_alloc|apply Kd.R_drewN|apply Kd.R_drew));exact Kd.R_mono HO_11.out (fun _ hk=>⟨hk.2,⟨hk.1.1,hk.1.2.1⟩⟩)⟩,⟨by(with_reducible repeat(first|apply Kd.R_alloc|apply Kd.R_drewN|apply Kd.R_drew));exact Kd.R_mono HO_17.out (fun _ hk=>⟨hk.2,⟨hk.1.1,hk.1.2.1⟩⟩)⟩,⟨by(with_reducible repeat(first|apply Qdr|apply Qdq|apply Qdp));exact j.out⟩,⟨qq_b⟩⟩
              ·rw[if_neg ah]at H;exact absurd H (by simp)
             ·rw[if_neg ag]at H;exact absurd H (by simp)
            ·rw[if_neg W]at H;have aG:(Op.bytesLess ((Qij c a).f2).toList (((Qij x3_1 x19_2).f2).toList))=false:=by simpa using W
             clear W
             by_cases ai:n.length<2932031007402
             ·rw[if_pos ai]at H;have aN:=QA ai;clear ai;obtain⟨ay,B⟩:∃y_:List (S36),y_=(n++[(⟨(Qij x3_1 x19_2).f0,(Qij x3_1 x19_2).f1,(Qij x3_1 x19_2).f2,(Qij x3_1 x19_2).f3⟩:S36)]):=⟨_,rfl⟩;replace H:(Qay.l1 k2 ay false c (c.length:Int) a x3_1 (x3_1.length:Int) (wrap64 (x19_2+1)) ((Qij c a).f0) ((Qij c a).f1) ((Qij c a).f2) ((Qij c a).f3))=some r:=by first |(rw[B];with_reducible exact H) |(have q:=(Option.bind_some _ _).symm.trans H;rw[B];with_reducible exact q) |(have q:=(Option.bind_some _ _).symm.trans H;with_reducible exact q)|with_reducible exact H |(rw[B];exact H)|exact H
              have aQ:=QA B;clear B;have H':=QA H;clear H;have v:0≤(x19_2:Int):=of_decide_eq_true qq_3;have x:x19_2<(x3_1.length:Int):=of_decide_eq_true qq_3;obtain⟨s,J,O,P,T,U⟩:=Qik (Kd.R_reads' HO_17.out).2.2 x19_2 v x
              cases J
              replace v:=eq_true v;replace x:=eq_true x
              go_wp2_with (first |((with_reducible refine Qfc (N:=9) rfl ?_);refine qq_e 9 #[.bool false,.int .u64 0,.string (⟨#[]⟩:ByteArray),.string (⟨#[]⟩:ByteArray)] 36 ?_;intro gb289 hg ce hbox hb;have n_:=qn10 (Kd.R_below (Kd.R_elderB qq_29 gb289 (Nat.le_of_eq hg.symm)) hb) (Kd.R_below (Kd.R_elderB qq_16 gb289 (Nat.le_of_eq hg.symm)) hb) (Kd.R_below (Kd.R_elderB qq_18 gb289 (Nat.le_of_eq hg.symm)) hb) (Qds (g:=d) (o:=.cells #[.bool ((Qij c a).f0),.int .u64 ((Qij c a).f1),.string ((Qij c a).f2),.string ((Qij c a).f3)] 36 (0,0)) qq_0 hb) (Qes qq_b hb) (hbox) (qq_s hg:w.heap.size≤gb289) (qq_s hg:w.heap.size≤gb289) ((by rw[hg];exact Nat.ne_of_lt (Qde (g:=d) (o:=.cells #[.bool ((Qij c a).f0),.int .u64 ((Qij c a).f1),.string ((Qij c a).f2),.string ((Qij c a).f3)] 36 (0,0)) qq_0):d≠gb289)) ((by rw[hg];exact Nat.ne_of_gt (Qde (g:=d) (o:=.cells #[.bool ((Qij c a).f0),.int .u64 ((Qij c a).f1),.string ((Qij c a).f2),.string ((Qij c a).f3)] 36 (0,0)) qq_0):gb289≠d));clear HO_6 HO_11 HO_17 j HB;obtain⟨HO_6,HO_11,HO_17,j,HB,l,ae,af,t,u⟩:=n_;clear hb hbox hg;have bZ:=u.out;have b0:=t.out;obtain⟨bw,bx,bz,bA⟩:=qc4 l.out;have b1:=Qdg l.out;obtain⟨bB,bC,bD,bE⟩:=qc4 j.out;have b2:=Qdg j.out) |((with_reducible refine Qhx (b:=.append) (xs:=#[.tmp 36,.tmp 38]) rfl ?_);at_builtin;refine Kd.R_append k36 (w0:=w) w.heap.size rfl (.tmp 36) (.tmp 38) 22 36 (.agg #[(.bool false),(.int .u64 0),(.string ⟨#[]⟩),(.string ⟨#[]⟩)]) 48 rfl Tryz.underlying22 Qif rfl (by decide) (by omega) u6 n (⟨(Qij x3_1 x19_2).f0,(Qij x3_1 x19_2).f1,(Qij x3_1 x19_2).f2,(Qij x3_1 x19_2).f3⟩:S36) [.bool ((Qij x3_1 x19_2).f0),.int .u64 ((Qij x3_1 x19_2).f1),.string ((Qij x3_1 x19_2).f2),.string ((Qij x3_1 x19_2).f3)] (fun k_=>some k_≠(.slice (some m) c.length co4:Value).ownBlock∧some k_≠(.slice (some s) x3_1.length co10:Value).ownBlock∧k_≠d∧k_≠gb289) (fun _=>False) rfl qq_23 ?aP (fun _ hk=>hk.elim) ?aF ?aO ?aB ?aS ?aL ?_;(case aP=>exact Qii _ _ _ (⟨(Qij x3_1 x19_2).f0,(Qij x3_1 x19_2).f1,(Qij x3_1 x19_2).f2,(Qij x3_1 x19_2).f3⟩:S36));(case aB=>exact qq_b);(case aF=>exact(fun k_ hk=>⟨Kd.fresh' (Kd.R_lt qq_15) k_ hk,Kd.fresh' (Kd.R_lt qq_14) k_ hk,Kd.freshB (g:=d) (o:=.cells #[.bool ((Qij c a).f0),.int .u64 ((Qij c a).f1),.string ((Qij c a).f2),.string ((Qij c a).f3)] 36 (0,0)) qq_6 k_ hk,Kd.freshB (g:=gb289) (o:=.cells #[.bool ((Qij x3_1 x19_2).f0),.int .u64 ((Qij x3_1 x19_2).f1),.string ((Qij x3_1 x19_2).f2),.string ((Qij x3_1 x19_2).f3)] 36 (0,0)) qq_x k_ hk⟩));(case aO=>exact qq_13);(case aS=>exact(Qer qq_b));(case aL=>have:=aN.out;omega);intro b7 cf ho hb hg hat;rw[← aQ.out]at ho;have n_:=qn6 (Kd.R_after (ok:=(fun k_=>some k_≠(.slice (some s) x3_1.length co10:Value).ownBlock∧k_≠d∧k_≠gb289)) qq_12 hg hat) (Kd.R_after (ok:=(fun k_=>some k_≠(.slice (some m) c.length co4:Value).ownBlock∧k_≠d∧k_≠gb289)) qq_11 hg hat) (Qdh (g:=d) (o:=.cells #[.bool ((Qij c a).f0),.int .u64 ((Qij c a).f1),.string ((Qij c a).f2),.string ((Qij c a).f3)] 36 (0,0)) qq_6 hg (Kd.R_away HO_6.out (fun _ hk=>hk.1.2.2))) (Qdh (g:=gb289) (o:=.cells #[.bool ((Qij x3_1 x19_2).f0),.int .u64 ((Qij x3_1 x19_2).f1),.string ((Qij x3_1 x19_2).f2),.string ((Qij x3_1 x19_2).f3)] 36 (0,0)) qq_x hg (Kd.R_away HO_6.out (fun _ hk=>hk.2))) (hb) (ho);clear HO_11 HO_17 j l HB HO_6;obtain⟨HO_11,HO_17,j,l,HB,aR⟩:=n_;clear ho hb hg hat))
              go_roundg k2
              case measure=>have:=HK1.out;have:=HK2.out;omega
              case rel=>exact⟨(ay),(false),(wrap64 (x19_2+1)),qq_7,qq_7,H',⟨by have:=HK1.out;have:=HK2.out;omega⟩,⟨by(with_reducible repeat(first|apply Kd.R_alloc|apply Kd.R_drewN|apply Kd.R_drew));exact Kd.R_mono aR.out (fun _ hk=>⟨hk.1,⟨hk.2.1,hk.2.2.1⟩⟩)⟩,⟨by(with_reducible repeat(first|apply Kd.R_alloc|apply Kd.R_drewN|apply Kd.R_drew));exact Kd.R_mono HO_11.out (fun _ hk=>⟨hk.2,⟨hk.1.1,hk.1.2.1⟩⟩)⟩,⟨by(with_reducible repeat(first|apply Kd.R_alloc|apply Kd.R_drewN|apply Kd.R_drew));exact Kd.R_mono HO_17.out (fun _ hk=>⟨hk.2,⟨hk.1.1,hk.1.2.1⟩⟩)⟩,⟨by(with_reducible repeat(first|apply Qdr|apply Qdq|apply Qdp));exact j.out⟩,⟨qq_b⟩⟩
             ·rw[if_neg ai]at H;exact absurd H (by simp)
          ·rw[if_neg ab]at H;exact absurd H (by simp)
         ·rw[if_neg aa]at H;exact absurd H (by simp)
        ·rw[if_neg M]at H;have aA:=decide_eq_false M;clear M
         by_cases aj:I=true
         ·subst aj;rw[if_pos rfl]at H;have H':=QA H;clear H;go_wp2
          go_roundg k2
          case measure=>have:=HK1.out;have:=HK2.out;omega
          case rel=>exact⟨(n),(wrap64 (a+1)),qq_7,H',⟨by have:=HK1.out;have:=HK2.out;omega⟩,⟨by(with_reducible repeat(first|apply Kd.R_alloc|apply Kd.R_drewN|apply Kd.R_drew));exact Kd.R_mono HO_6.out (fun _ hk=>hk.1)⟩,⟨by(with_reducible repeat(first|apply Kd.R_alloc|apply Kd.R_drewN|apply Kd.R_drew));exact Kd.R_mono HO_11.out (fun _ hk=>hk.1)⟩,⟨qq_b⟩⟩
         ·replace aj:=Bool.eq_false_iff.mpr aj;subst aj;rw[if_neg (show ¬(false=true)by decide)]at H
          by_cases ak:n.length<2932031007402
          ·rw[if_pos ak]at H;have aT:=QA ak;clear ak;obtain⟨az,D⟩:∃y_:List (S36),y_=(n++[(⟨((Qij c a).f0),((Qij c a).f1),((Qij c a).f2),((Qij c a).f3)⟩:S36)]):=⟨_,rfl⟩;replace H:(Qay.l0 k2 az c (c.length:Int) (wrap64 (a+1)))=some r:=by first |(rw[D];with_reducible exact H) |(have q:=(Option.bind_some _ _).symm.trans H;rw[D];with_reducible exact q) |(have q:=(Option.bind_some _ _).symm.trans H;with_reducible exact q)|with_reducible exact H |(rw[D];exact H)|exact H
           have aU:=QA D;clear D;have H':=QA H;clear H;obtain⟨bF,bG,bH,bI⟩:=qc4 j.out;have b3:=Qdg j.out
           go_wp2_with (first |((with_reducible refine Qhx (b:=.append) (xs:=#[.tmp 43,.tmp 45]) rfl ?_);at_builtin;refine Kd.R_append k36 (w0:=w) w.heap.size rfl (.tmp 43) (.tmp 45) 22 36 (.agg #[(.bool false),(.int .u64 0),(.string ⟨#[]⟩),(.string ⟨#[]⟩)]) 48 rfl Tryz.underlying22 Qif rfl (by decide) (by omega) u6 n (⟨((Qij c a).f0),((Qij c a).f1),((Qij c a).f2),((Qij c a).f3)⟩:S36) [.bool ((Qij c a).f0),.int .u64 ((Qij c a).f1),.string ((Qij c a).f2),.string ((Qij c a).f3)] (fun k_=>some k_≠(.slice (some m) c.length co4:Value).ownBlock∧some k_≠(.slice Ao10 x3_1.length co10:Value).ownBlock∧k_≠d) (fun _=>False) rfl rfl ?aP (fun _ hk=>hk.elim) ?aF ?aO ?aB ?aS ?aL ?_;(case aP=>exact Qii _ _ _ (⟨((Qij c a).f0),((Qij c a).f1),((Qij c a).f2),((Qij c a).f3)⟩:S36));(case aB=>exact qq_b);(case aF=>exact(fun k_ hk=>⟨Kd.fresh' (Kd.R_lt qq_16) k_ hk,Kd.fresh' (Kd.R_lt qq_18) k_ hk,Kd.freshB (g:=d) (o:=.cells #[.bool ((Qij c a).f0),.int .u64 ((Qij c a).f1),.string ((Qij c a).f2),.string ((Qij c a).f3)] 36 (0,0)) qq_0 k_ hk⟩));(case aO=>exact qq_29);(case aS=>exact(Qer qq_b));(case aL=>have:=aT.out;omega);intro b8 cg ho hb hg hat;rw[← aU.out]at ho;have n_:=qn5 (Kd.R_after (ok:=(fun k_=>some k_≠(.slice Ao10 x3_1.length co10:Value).ownBlock∧k_≠d)) (by(with_reducible repeat(first|apply Kd.R_alloc|apply Kd.R_drewN|apply Kd.R_drew));exact Kd.R_mono HO_11.out (fun _ hk=>⟨⟨hk.2.1,hk.2.2⟩,hk.1⟩)) hg hat) (Kd.R_after (ok:=(fun k_=>some k_≠(.slice (some m) c.length co4:Value).ownBlock∧k_≠d)) (by(with_reducible repeat(first|apply Kd.R_alloc|apply Kd.R_drewN|apply Kd.R_drew));exact Kd.R_mono HO_17.out (fun _ hk=>⟨⟨hk.2.1,hk.2.2⟩,hk.1⟩)) hg hat) (Qdh (g:=d) (o:=.cells #[.bool ((Qij c a).f0),.int .u64 ((Qij c a).f1),.string ((Qij c a).f2),.string ((Qij c a).f3)] 36 (0,0)) qq_0 hg (Kd.R_away HO_6.out (fun _ hk=>hk.2.2))) (hb) (ho);clear HO_11 HO_17 j HB HO_6;obtain⟨HO_11,HO_17,j,HB,aV⟩:=n_;clear ho hb hg hat))
           go_roundg k2
           case measure=>have:=HK1.out;have:=HK2.out;omega
           case rel=>exact⟨(az),(wrap64 (a+1)),qq_7,H',⟨by have:=HK1.out;have:=HK2.out;omega⟩,⟨by(with_reducible repeat(first|apply Kd.R_alloc|apply Kd.R_drewN|apply Kd.R_drew));exact Kd.R_mono aV.out (fun _ hk=>hk.1)⟩,⟨by(with_reducible repeat(first|apply Kd.R_alloc|apply Kd.R_drewN|apply Kd.R_drew));exact Kd.R_mono HO_11.out (fun _ hk=>hk.2)⟩,⟨qq_b⟩⟩
          ·rw[if_neg ak]at H;exact absurd H (by simp)
     ·rw[if_neg c7]at H;exact absurd H (by simp)
    ·rw[if_neg c6]at H;exact absurd H (by simp)
   ·rw[if_neg c5]at H;have ap:=decide_eq_false c5;clear c5;obtain rfl:=Option.some.inj H;go_wp2;go_ret
    exact⟨_,by first|rfl |(simp[Qib,Qic]<;>rfl) |(simp[*,Qib,Qic]<;>rfl),by(with_reducible repeat(first|apply Kd.R_alloc|apply Kd.R_drewN|apply Kd.R_drew));exact Kd.R_mono E.out (fun _ hk=>trivial),qq_b⟩
def Qad.f(l0:List Int)(l1:List Int):Option (Bool):=some ((strOfNums l0).toList == (strOfNums l1).toList)
theorem Qad.calls(A0:Option Addr)(c0:Nat)(l0:List Int)(A1:Option Addr)(c1:Nat)(l1:List Int)(r:Bool)(w:World)(hr0:Kd.C (Kd.int .u8) w A0 l0.length l0)(hc0:l0.length≤c0)(hr1:Kd.C (Kd.int .u8) w A1 l1.length l1)(hc1:l1.length≤c1)(h:Qad.f l0 l1=some r) :
  Calls Tryz.prog 112 #[.slice A0 l0.length c0,.slice A1 l1.length c1] w fun e w'=>e=.returned (.bool r)∧Drawn0 w w':=by
 have HR0:=QA hr0;have HC0:=QA hc0;clear hr0 hc0;have HR1:=QA hr1;have HC1:=QA hc1;clear hr1 hc1;have H:(some ((strOfNums l0).toList == (strOfNums l1).toList))=some r:=h;clear h;obtain rfl:=Option.some.inj H;have hcv3:=Kd.C_string (P:=Tryz.prog) (A:=A0) (c:=c0) Tryz.underlying47 Tryz.underlying5 Tryz.underlying9 HR0.out;have hcv4:=Kd.C_string (P:=Tryz.prog) (A:=A1) (c:=c1) Tryz.underlying47 Tryz.underlying5 Tryz.underlying9 HR1.out
 go_enter Tryz.func112,Tryz.ntmps112
 go_wp2;go_ret
 exact⟨by first|rfl |(simp;done) |(simp[*];done),by repeat(first|exact Drawn0.refl _|apply Drawn0.step)⟩
def Qcb.l0:Nat→List Int→List Int→Int→Int→Option (Bool)
 | 0,_,_,_,_=>none
 | k+1,x0,x1,x12,x13=>if x13<x12 then(if 0≤x13 then(if x13<(x0.length:Int)then(if x13<(x1.length:Int)then(if(rd x0 x13)=(rd x1 x13)then(Qcb.l0 k x0 x1 x12 (wrap64 (x13+1)))else(some false))else(none))else(none))else(none))else(some true)
def Qcb.f(k:Nat)(l0:List Int)(l1:List Int):Option (Bool):=if(l0.length:Int)=(l1.length:Int)then(Qcb.l0 k l0 l1 (l0.length:Int) 0)else(some false)
theorem Qcb.calls (k:Nat) (A0:Option Addr) (c0:Nat) (l0:List Int) (A1:Option Addr) (c1:Nat) (l1:List Int) (r:Bool) (w:World) (hr0:Kd.C (Kd.int .u64) w A0 l0.length l0) (hc0:l0.length≤c0) (hr1:Kd.C (Kd.int .u64) w A1 l1.length l1) (hc1:l1.length≤c1) (h:Qcb.f k l0 l1=some r) :
  Calls Tryz.prog 240 #[.slice A0 l0.length c0,.slice A1 l1.length c1] w fun e w'=>e=.returned (.bool r)∧Drawn0 w w':=by
 have u:=QA hr0;have G:=QA hc0;clear hr0 hc0;have v:=QA hr1;have I:=QA hc1;clear hr1 hc1;have H:(if(l0.length:Int)=(l1.length:Int)then(Qcb.l0 k l0 l1 (l0.length:Int) 0)else(some false))=some r:=h;clear h
 by_cases c3:(l0.length:Int)=(l1.length:Int)
 ·rw [if_pos c3]at H;have o:((l0.length:Int) == (l1.length:Int))=true:=beq_iff_eq.mpr c3;have p:((l0.length:Int) != (l1.length:Int))=false:=bne_eq_false_iff_eq.mpr c3;have q:(l0.length == l1.length)=true:=by first|simpa using c3 |(simp at c3 ⊢;omega)
  clear c3;have H':=QA H;clear H
  go_enter Tryz.func240,Tryz.ntmps240
  go_wp2
  repeat(go_quiet (fail);try go_wp2)
  go_loopg [13] k (fun kq A w'=>∃(a:Int),A=.int .i64 a∧Aside0 (Qcb.l0 kq l0 l1 (l0.length:Int) a=some r)∧Aside0 (kq≤k)∧Drawn0 w w')
  case atStart=>exact⟨(0),qq_7,H',⟨Nat.le_refl _⟩,by repeat(first|exact Drawn0.refl _|apply Drawn0.step)⟩
  case round =>
   clear H'
   try clear c1
   try clear c3
   try clear o
   try clear p
   try clear q
   obtain⟨a,rfl,HA,HK1,⟨m1,rfl⟩⟩:=hrel
   cases gk with
   | zero=>exact absurd HA.out (by simp[Qcb.l0])
   | succ k1 =>
    have H:=HA.out;clear HA;simp only[Qcb.l0]at H
    by_cases c4:a<(l0.length:Int)
    ·rw [if_pos c4]at H;have x:=decide_eq_true c4;clear c4
     by_cases c5:0≤a
     ·rw [if_pos c5]at H;have B:=decide_eq_true c5;clear c5
      by_cases c6:a<(l0.length:Int)
      ·rw[if_pos c6]at H;have D:=decide_eq_true c6;clear c6
       by_cases c7:a<(l1.length:Int)
       ·rw[if_pos c7]at H;have E:=decide_eq_true c7;clear c7
        by_cases c8:(rd l0 a)=(rd l1 a)
        ·rw[if_pos c8]at H;have y:((rd l0 a) == (rd l1 a))=true:=beq_iff_eq.mpr c8;have z:((rd l0 a) != (rd l1 a))=false:=bne_eq_false_iff_eq.mpr c8;clear c8;have H':=QA H;clear H;have b:0≤(a:Int):=of_decide_eq_true qq_3;have c:a<(l0.length:Int):=of_decide_eq_true qq_3;obtain⟨s,j,m⟩:=Kd.at_int u.out a b c
         cases j
         replace b:=eq_true b;replace c:=eq_true c;have d:0≤(a:Int):=of_decide_eq_true qq_3;have g:a<(l1.length:Int):=of_decide_eq_true qq_3;obtain⟨t,l,n⟩:=Kd.at_int v.out a d g
         cases l
         replace d:=eq_true d;replace g:=eq_true g;go_wp2
         repeat(go_quiet (fail);try go_wp2)
         go_roundg k1
         case measure=>have:=HK1.out;omega
         case rel=>exact⟨(wrap64 (a+1)),qq_7,H',⟨by have:=HK1.out;omega⟩,by repeat(first|exact Drawn0.refl _|apply Drawn0.step)⟩
        ·rw[if_neg c8]at H;have y:((rd l0 a) == (rd l1 a))=false:=beq_eq_false_iff_ne.mpr c8;have z:((rd l0 a) != (rd l1 a))=true:=bne_iff_ne.mpr c8;obtain rfl:=Option.some.inj H;have b:0≤(a:Int):=of_decide_eq_true qq_3;have c:a<(l0.length:Int):=of_decide_eq_true qq_3;obtain⟨s,j,m⟩:=Kd.at_int u.out a b c
         cases j
         replace b:=eq_true b;replace c:=eq_true c;have d:0≤(a:Int):=of_decide_eq_true qq_3;have g:a<(l1.length:Int):=of_decide_eq_true qq_3;obtain⟨t,l,n⟩:=Kd.at_int v.out a d g
         cases l
         replace d:=eq_true d;replace g:=eq_true g;go_wp2
         repeat(go_quiet (fail);try go_wp2)
         go_ret
         exact⟨by first|rfl |(simp;done) |(simp[*];done),by repeat(first|exact Drawn0.refl _|apply Drawn0.step)⟩
       ·rw[if_neg c7]at H;exact absurd H (by simp)
      ·rw[if_neg c6]at H;exact absurd H (by simp)
     ·rw[if_neg c5]at H;exact absurd H (by simp)
    ·rw[if_neg c4]at H;have x:=decide_eq_false c4;clear c4;obtain rfl:=Option.some.inj H;go_wp2
     repeat(go_quiet (fail);try go_wp2)
     go_ret
     exact⟨by first|rfl |(simp;done) |(simp[*];done),by repeat(first|exact Drawn0.refl _|apply Drawn0.step)⟩
 ·rw[if_neg c3]at H;have o:((l0.length:Int) == (l1.length:Int))=false:=beq_eq_false_iff_ne.mpr c3;have p:((l0.length:Int) != (l1.length:Int))=true:=bne_iff_ne.mpr c3;have q:(l0.length == l1.length)=false:=by first|simpa using c3 |(simp at c3 ⊢;omega)
  obtain rfl:=Option.some.inj H
  go_enter Tryz.func240,Tryz.ntmps240
  go_wp2
  repeat(go_quiet (fail);try go_wp2)
  go_ret
  exact⟨by first|rfl |(simp;done) |(simp[*];done),by repeat(first|exact Drawn0.refl _|apply Drawn0.step)⟩
def Qah.f(a0:Int)(a1:Int):Option (Bool):=(Qak.f a0).bind fun t413=>(if t413=true then((Qak.f a1).bind fun t414=>(if t414=true then(some (decide (a0<a1)))else(some true)))else(some (decide (a0<a1))))
theorem Qah.calls(a0:Int)(a1:Int)(r:Bool)(w:World)(h:Qah.f a0 a1=some r) :
  Calls Tryz.prog 291 #[.int .u64 a0,.int .u64 a1] w fun e w'=>e=.returned (.bool r)∧Drawn0 w w':=by
 have H:((Qak.f a0).bind fun a=>(if a=true then((Qak.f a1).bind fun b=>(if b=true then(some (decide (a0<a1)))else(some true)))else(some (decide (a0<a1)))))=some r:=h;clear h;replace H:=Option.bind_eq_some_iff.mp H;obtain⟨a,c,H⟩:=H;have A3:=QA c;clear c
 by_cases c4:a=true
 ·subst c4;rw[if_pos rfl]at H;replace H:=Option.bind_eq_some_iff.mp H;obtain⟨b,d,H⟩:=H;have A5:=QA d;clear d
  by_cases c6:b=true
  ·subst c6;rw[if_pos rfl]at H;obtain rfl:=Option.some.inj H
   go_enter Tryz.func291,Tryz.ntmps291
   go_wp2_with (first |((with_reducible refine Qhw (f:=131) rfl ?_);refine Qfz (some 6) rfl rfl Tryz.func131 qq_5 rfl #[.int .u64 a0] rfl qq_1 ?_;(with_reducible refine(Qak.calls a0 true _ A3.out).mono ?_);rintro e w' ⟨rfl,⟨nd,rfl⟩⟩;refine⟨_,rfl,?_⟩) |(go_at_call 131;(with_reducible refine(Qak.calls a1 true _ A5.out).mono ?_);rintro e w' ⟨rfl,⟨nd,rfl⟩⟩))
   go_ret
   exact⟨by first|rfl |(simp;done) |(simp[*];done),by repeat(first|exact Drawn0.refl _|apply Drawn0.step)⟩
  ·replace c6:=Bool.eq_false_iff.mpr c6;subst c6;rw[if_neg (show ¬(false=true)by decide)]at H;obtain rfl:=Option.some.inj H
   go_enter Tryz.func291,Tryz.ntmps291
   go_wp2_with (first |((with_reducible refine Qhw (f:=131) rfl ?_);refine Qfz (some 6) rfl rfl Tryz.func131 qq_5 rfl #[.int .u64 a0] rfl qq_1 ?_;(with_reducible refine(Qak.calls a0 true _ A3.out).mono ?_);rintro e w' ⟨rfl,⟨nd,rfl⟩⟩;refine⟨_,rfl,?_⟩) |(go_at_call 131;(with_reducible refine(Qak.calls a1 false _ A5.out).mono ?_);rintro e w' ⟨rfl,⟨nd,rfl⟩⟩))
   go_ret
   exact⟨by first|rfl |(simp;done) |(simp[*];done),by repeat(first|exact Drawn0.refl _|apply Drawn0.step)⟩
 ·replace c4:=Bool.eq_false_iff.mpr c4;subst c4;rw[if_neg (show ¬(false=true)by decide)]at H;obtain rfl:=Option.some.inj H
  go_enter Tryz.func291,Tryz.ntmps291
  go_wp2_with (first |((with_reducible refine Qhw (f:=131) rfl ?_);refine Qfz (some 6) rfl rfl Tryz.func131 qq_5 rfl #[.int .u64 a0] rfl qq_1 ?_;(with_reducible refine(Qak.calls a0 false _ A3.out).mono ?_);rintro e w' ⟨rfl,⟨nd,rfl⟩⟩;refine⟨_,rfl,?_⟩))
  go_ret
  exact⟨by first|rfl |(simp;done) |(simp[*];done),by repeat(first|exact Drawn0.refl _|apply Drawn0.step)⟩
def Qcc.l0:Nat→List Int→Int→Option (Bool)
 | 0,_,_=>none
 | k+1,x0,x3=>if x3 > 0 then(if 0≤x3 then(if x3<(x0.length:Int)then(if 0≤(wrap64 (x3-1))then(if(wrap64 (x3-1))<(x0.length:Int)then((Qah.f (rd x0 x3) (rd x0 (wrap64 (x3-1)))).bind fun t417=>(if t417=true then(some false)else(Qcc.l0 k x0 (wrap64 (x3-1)))))else(none))else(none))else(none))else(none))else(some true)
def Qcc.f(k:Nat)(l0:List Int):Option (Bool):=Qcc.l0 k l0 (wrap64 ((l0.length:Int)-1))
theorem Qcc.mono_l:∀k,(∀y0 y1,LeO (Qcc.l0 k y0 y1) (Qcc.l0 (k+1) y0 y1))
 | 0=>fun _ _ r h=>by simp[Qcc.l0]at h
 | k+1=>by
  have ih0:=Qcc.mono_l k
  ·intro y0 y1;unfold Qcc.l0
   repeat' first
   |(with_reducible exact ih0 _ _)
   |(with_reducible exact LeO.refl _)
   |(with_reducible exact LeO.none _)
   |(with_reducible refine LeO.ite ?_ ?_)
   |(with_reducible refine LeO.bind ?_ (fun _=>?_))
   | exact ih0 _ _
   | exact LeO.none _
   | refine LeO.ite ?_ ?_
   | refine LeO.bind ?_ (fun _=>?_)
theorem Qcc.mono:∀a0 k,LeO (Qcc.f k a0) (Qcc.f (k+1) a0):=by
 intro a0 k;have ih0:=Qcc.mono_l k;unfold Qcc.f
 repeat' first
   |(with_reducible exact ih0 _ _)
   |(with_reducible exact LeO.refl _)
   |(with_reducible exact LeO.none _)
   |(with_reducible refine LeO.ite ?_ ?_)
   |(with_reducible refine LeO.bind ?_ (fun _=>?_))
   | exact ih0 _ _
   | exact LeO.none _
   | refine LeO.ite ?_ ?_
   | refine LeO.bind ?_ (fun _=>?_)
theorem Qcc.calls (k:Nat) (A0:Option Addr) (c0:Nat) (l0:List Int) (r:Bool) (w:World) (hr0:Kd.C (Kd.int .u64) w A0 l0.length l0) (hc0:l0.length≤c0) (h:Qcc.f k l0=some r) :
  Calls Tryz.prog 274 #[.slice A0 l0.length c0] w fun e w'=>e=.returned (.bool r)∧Drawn0 w w':=by
 have q:=QA hr0;have D:=QA hc0;clear hr0 hc0;have H:(Qcc.l0 k l0 (wrap64 ((l0.length:Int)-1)))=some r:=h;clear h;have H':=QA H;clear H
 go_enter Tryz.func274,Tryz.ntmps274
 go_wp2
 repeat(go_quiet (fail);try go_wp2)
 go_loopg [3] k (fun kq v3 w'=>∃(x3_1:Int),v3=.int .i64 x3_1∧Aside0 (Qcc.l0 kq l0 x3_1=some r)∧Aside0 (kq≤k)∧Drawn0 w w')
 case atStart=>exact⟨(wrap64 ((l0.length:Int)-1)),qq_7,H',⟨Nat.le_refl _⟩,by repeat(first|exact Drawn0.refl _|apply Drawn0.step)⟩
 case round =>
  clear H';obtain⟨x3_1,rfl,HA,HK1,⟨m1,rfl⟩⟩:=hrel
  cases gk with
  | zero=>exact absurd HA.out (by simp[Qcc.l0])
  | succ k1 =>
   have H:=HA.out;clear HA;simp only[Qcc.l0]at H
   by_cases c2:x3_1 > 0
   ·rw [if_pos c2]at H;have v:decide (0<x3_1)=true:=decide_eq_true c2;clear c2
    by_cases c3:0≤x3_1
    ·rw [if_pos c3]at H;have y:=decide_eq_true c3;clear c3
     by_cases c4:x3_1<(l0.length:Int)
     ·rw [if_pos c4]at H;have z:=decide_eq_true c4;clear c4;obtain⟨a,j⟩:∃j_:Int,(wrap64 (x3_1-1))=j_:=⟨_,rfl⟩;replace H:(if 0≤(a)then(if(a)<(l0.length:Int)then((Qah.f (rd l0 x3_1) (rd l0 (a))).bind fun n=>(if n=true then(some false)else(Qcc.l0 k1 l0 a)))else(none))else(none))=some r:=by first |(rw[j]at H;exact H) |(simp only[j]at H ⊢;exact H)
      have x:(IntKind.i64.wrap (x3_1-1))=a:=(Qga _).trans j
      by_cases c6:0≤(a)
      ·rw[if_pos c6]at H;have A:=decide_eq_true c6;clear c6
       by_cases c7:(a)<(l0.length:Int)
       ·rw[if_pos c7]at H;have B:=decide_eq_true c7;clear c7;replace H:=Option.bind_eq_some_iff.mp H;obtain⟨n,u,H⟩:=H;have A8:=QA u;clear u
        by_cases c9:n=true
        ·subst c9;rw[if_pos rfl]at H;obtain rfl:=Option.some.inj H;have b:0≤(x3_1:Int):=of_decide_eq_true qq_3;have c:x3_1<(l0.length:Int):=of_decide_eq_true qq_3;obtain⟨l,o,s⟩:=Kd.at_int q.out x3_1 b c
         cases o
         replace b:=eq_true b;replace c:=eq_true c;have d:0≤((a):Int):=of_decide_eq_true qq_3;have g:(a)<(l0.length:Int):=of_decide_eq_true qq_3;obtain⟨m,p,t⟩:=Kd.at_int q.out (a) d g;obtain rfl:l=m:=(by injection p);replace d:=eq_true d;replace g:=eq_true g
         go_wp2_with (first |(go_at_call 291;(with_reducible refine(Qah.calls (rd l0 x3_1) (rd l0 (a)) true _ A8.out).mono ?_);rintro e w' ⟨rfl,⟨nd,rfl⟩⟩;(try first|exact⟨rfl,_,World.drewN_drewN _ _ _⟩|exact⟨rfl,_,Eq.trans (World.drewN_drewN _ _ _) (congrArg (World.drewN _) (Nat.add_assoc _ _ _))⟩)))
         repeat(go_quiet (first |(go_at_call 291;(with_reducible refine(Qah.calls (rd l0 x3_1) (rd l0 (a)) true _ A8.out).mono ?_);rintro e w' ⟨rfl,⟨nd,rfl⟩⟩;(try first|exact⟨rfl,_,World.drewN_drewN _ _ _⟩|exact⟨rfl,_,Eq.trans (World.drewN_drewN _ _ _) (congrArg (World.drewN _) (Nat.add_assoc _ _ _))⟩)));try go_wp2_with (first |(go_at_call 291;(with_reducible refine(Qah.calls (rd l0 x3_1) (rd l0 (a)) true _ A8.out).mono ?_);rintro e w' ⟨rfl,⟨nd,rfl⟩⟩;(try first|exact⟨rfl,_,World.drewN_drewN _ _ _⟩|exact⟨rfl,_,Eq.trans (World.drewN_drewN _ _ _) (congrArg (World.drewN _) (Nat.add_assoc _ _ _))⟩))))
         go_ret
         exact⟨by first|rfl |(simp;done) |(simp only[← j]<;>(first|rfl|simp)) |(simp[*];done),by repeat(first|exact Drawn0.refl _|apply Drawn0.step)⟩
        ·replace c9:=Bool.eq_false_iff.mpr c9;subst c9;rw[if_neg (show ¬(false=true)by decide)]at H;have H':=QA H;clear H;have b:0≤(x3_1:Int):=of_decide_eq_true qq_3;have c:x3_1<(l0.length:Int):=of_decide_eq_true qq_3;obtain⟨l,o,s⟩:=Kd.at_int q.out x3_1 b c
         cases o
         replace b:=eq_true b;replace c:=eq_true c;have d:0≤((a):Int):=of_decide_eq_true qq_3;have g:(a)<(l0.length:Int):=of_decide_eq_true qq_3;obtain⟨m,p,t⟩:=Kd.at_int q.out (a) d g;obtain rfl:l=m:=(by injection p);replace d:=eq_true d;replace g:=eq_true g
         go_wp2_with (first |(go_at_call 291;(with_reducible refine(Qah.calls (rd l0 x3_1) (rd l0 (a)) false _ A8.out).mono ?_);rintro e w' ⟨rfl,⟨nd,rfl⟩⟩;(try first|exact⟨rfl,_,World.drewN_drewN _ _ _⟩|exact⟨rfl,_,Eq.trans (World.drewN_drewN _ _ _) (congrArg (World.drewN _) (Nat.add_assoc _ _ _))⟩)))
         repeat(go_quiet (first |(go_at_call 291;(with_reducible refine(Qah.calls (rd l0 x3_1) (rd l0 (a)) false _ A8.out).mono ?_);rintro e w' ⟨rfl,⟨nd,rfl⟩⟩;(try first|exact⟨rfl,_,World.drewN_drewN _ _ _⟩|exact⟨rfl,_,Eq.trans (World.drewN_drewN _ _ _) (congrArg (World.drewN _) (Nat.add_assoc _ _ _))⟩)));try go_wp2_with (first |(go_at_call 291;(with_reducible refine(Qah.calls (rd l0 x3_1) (rd l0 (a)) false _ A8.out).mono ?_);rintro e w' ⟨rfl,⟨nd,rfl⟩⟩;(try first|exact⟨rfl,_,World.drewN_drewN _ _ _⟩|exact⟨rfl,_,Eq.trans (World.drewN_drewN _ _ _) (congrArg (World.drewN _) (Nat.add_assoc _ _ _))⟩))))
         go_roundg k1
         case measure=>have:=HK1.out;omega
         case rel=>exact⟨(a),(by first|rfl |(simp;done) |(simp only[← j]<;>(first|rfl|simp)) |(simp[*];done)),H',⟨by have:=HK1.out;omega⟩,by repeat(first|exact Drawn0.refl _|apply Drawn0.step)⟩
       ·rw[if_neg c7]at H;exact absurd H (by simp)
      ·rw[if_neg c6]at H;exact absurd H (by simp)
     ·rw[if_neg c4]at H;exact absurd H (by simp)
    ·rw[if_neg c3]at H;exact absurd H (by simp)
   ·rw[if_neg c2]at H;have v:decide (0<x3_1)=false:=decide_eq_false c2;clear c2;obtain rfl:=Option.some.inj H;go_wp2
    repeat(go_quiet (fail);try go_wp2)
    go_ret
    exact⟨by first|rfl |(simp;done) |(simp[*];done),by repeat(first|exact Drawn0.refl _|apply Drawn0.step)⟩
def fascicleref02_Num.T3:Bool × List (List Nat × List Nat):=(true,[([],[]),([0],[0]),([1],[1]),([2],[2]),([3],[3]),([4],[4]),([],[]),([6],[6]),([7],[7]),([5,8],[5,8]),([9,8,0,1,2,3,4,5,6,7,8,9],[9])])
def fascicleref14_Fits.T3:Bool × List (List Nat × List Nat):=(true,[([],[]),([0],[0]),([],[]),([1,2],[1,2]),([],[]),([4],[4]),([5],[5]),([6],[6]),([3,7],[3,7]),([8],[8]),([],[]),([10],[10]),([11,7],[11]),([9,12],[9,12]),([13,12,0,1,2,3,4,5,6,7,8,9,10,11,12,13],[13])])
def fascicleref11_Text.T5:Bool × List (List Nat × List Nat):=(true,[([],[]),([],[]),([1],[1]),([2],[2]),([0,3],[0,3]),([],[]),([5],[5]),([6],[6]),([7,3],[7]),([4,8],[4,8]),([9,8,0,1,2,3,4,5,6,7,8,9],[0,9])])
end Go.Proofs.YtepkfjmjidjedaaGreat.C
end
