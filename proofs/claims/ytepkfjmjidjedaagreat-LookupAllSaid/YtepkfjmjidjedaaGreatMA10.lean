/- Merged texts. -/
import Derived.Test.YtepkfjmjidjedaaGreatMA02
import Derived.Test.YtepkfjmjidjedaaGreatMA05
import Derived.Test.YtepkfjmjidjedaaGreatMA06
import Derived.Test.YtepkfjmjidjedaaGreatMA08
import Derived.Test.YtepkfjmjidjedaaGreatMA07
import Derived.Test.YtepkfjmjidjedaaGreatMA09
import Derived.Test.YtepkfjmjidjedaaGreatMA03
set_option linter.unusedVariables false
set_option linter.unusedSimpArgs false
set_option maxHeartbeats 8000000
set_option maxRecDepth 100000
section
namespace Go.Proofs.YtepkfjmjidjedaaGreat.C
open Go.RowKit Go.Proofs.YtepkfjmjidjedaaGreatW.PrintWords Go.Proofs.YtepkfjmjidjedaaGreatW.PrintLast Go.Proofs.YtepkfjmjidjedaaGreatW.PrintMore
attribute [local go_sem] Qho Qhp Qhq Qhr Qhs Qht Qhu Qhv
def Qan.l0:Nat→List Int→List Int→List Int→Option (List Int × Int)
 | 0,_,_,_=>none
 | k+1,x0,x4,x5=>if(x5.length:Int) > 0 then(if 0<(x5.length:Int)then(if(wrap64 (rd x5 0)) > (x5.length:Int)then(some (([]:List Int),2))else(if 1≤(wrap64 (rd x5 0))then(if(wrap64 (rd x5 0))≤(x5.length:Int)then((some ((x5.take ((wrap64 (rd x5 0)):Int).toNat).drop 1:List Int)).bind fun y359=>(if x4.length+y359.length<140737488355328 then((some (x4++y359:List Int)).bind fun y364=>(if 0≤(wrap64 (rd x5 0))then((some (x5.drop ((wrap64 (rd x5 0)):Int).toNat:List Int)).bind fun y367=>(if(wrap64 (rd x5 0))≤254 then(if(y367.length:Int) > 0 then(if y364.length<140737488355328 then(Qan.l0 k x0 (y364++[0]) y367)else(none))else(Qan.l0 k x0 y364 y367))else(Qan.l0 k x0 y364 y367)))else(none)))else(none)))else(none))else(none)))else(none))else((Qam.f x4).bind fun t375=>((Qad.f t375 x0).bind fun t378=>(if t378=true then(some (x4,0))else(some (([]:List Int),4)))))
def Qan.f(k:Nat)(l0:List Int):Option (List Int × Int):=(Qae.f l0 0).bind fun t357=>(if t357≥0 then(some (([]:List Int),4))else(if(l0.length:Int)=0 then(some (([]:List Int),2))else(Qan.l0 k l0 ([]:List Int) l0)))
theorem Qan.calls (k:Nat) (P0_:Nat→Prop) (A0:Option Addr) (c0:Nat) (l0:List Int) (r1:List Int) (r2:Int) (w:World) (hs0:Kd.V (Kd.int .u8) 5 w w.heap.size (fun k_=>P0_ k_) (.slice A0 l0.length c0) l0) (h:Qan.f k l0=some (r1,r2)) :
  Calls Tryz.prog 228 #[.slice A0 l0.length c0] w fun e w'=>∃aI:Value,e=.returned (.tuple #[aI,.int .i64 r2])∧Kd.R (Kd.int .u8) 5 w' w.heap.size (fun k_=>(w.heap.size≤k_)) aI r1∧Below w.heap.size w w':=by
 have J:=QA (show Kd.V (Kd.int .u8) 5 w w.heap.size (fun k_=>(P0_ k_∨w.heap.size≤k_)) (.slice A0 l0.length c0) l0 from Kd.V_mono hs0 (fun k_ hk=>.inl hk));have HB:=QA (Below.refl w.heap.size w);have H:((Qae.f l0 0).bind fun v=>(if v≥0 then(some (([]:List Int),4))else(if(l0.length:Int)=0 then(some (([]:List Int),2))else(Qan.l0 k l0 ([]:List Int) l0))))=some (r1,r2):=h;clear h;replace H:=Option.bind_eq_some_iff.mp H;obtain⟨v,aJ,H⟩:=H;have A2:=QA aJ;clear aJ
 by_cases c3:v≥0
 ·rw[if_pos c3]at H;have aj:decide (0≤v)=true:=decide_eq_true c3;clear c3;simp only[Option.some.injEq,Prod.mk.injEq]at H;obtain⟨rfl,rfl⟩:=H
  go_enter Tryz.func228,Tryz.ntmps228
  go_wp2_with (first |((with_reducible refine Qhw (f:=122) rfl ?_);refine Qfz (some 8) rfl rfl Tryz.func122 qq_5 rfl #[.slice A0 l0.length c0,.int .u8 0] rfl qq_1 ?_;(with_reducible refine(Qae.calls _ _ l0 0 v _ ?side1 ?side2 A2.out).mono ?_);(case side1=>repeat(first|exact(Kd.V_reads' J.out).2.2 |(with_reducible refine Kd.C_alloc ?_ _) |(with_reducible refine Kd.C_drewN ?_ _) |(with_reducible refine Kd.C_drew ?_)));(case side2=>exact(Kd.V_reads' J.out).2.1);rintro e w' ⟨rfl,⟨nd,rfl⟩⟩;refine⟨_,rfl,?_⟩))
  go_ret2
  exact⟨_,by first|rfl |(simp[Qib,Qic]<;>rfl) |(simp[*,Qib,Qic]<;>rfl),by first|exact Kd.R_nil _ _ _ _ _|exact Kd.N_nil _ _ _ _ _|exact Kd.V_nil _ _ _ _ _|exact Kd.Q_nil _ _ _ _ _|exact Kd.S_nil _ _ _ _ _,qq_b⟩
 ·rw [if_neg c3]at H;have aj:decide (0≤v)=false:=decide_eq_false c3;clear c3
  by_cases c4:(l0.length:Int)=0
  ·rw[if_pos c4]at H;have ak:((l0.length:Int) == 0)=true:=beq_iff_eq.mpr c4;have al:((l0.length:Int) != 0)=false:=bne_eq_false_iff_eq.mpr c4;clear c4;simp only[Option.some.injEq,Prod.mk.injEq]at H;obtain⟨rfl,rfl⟩:=H
   go_enter Tryz.func228,Tryz.ntmps228
   go_wp2_with (first |((with_reducible refine Qhw (f:=122) rfl ?_);refine Qfz (some 8) rfl rfl Tryz.func122 qq_5 rfl #[.slice A0 l0.length c0,.int .u8 0] rfl qq_1 ?_;(with_reducible refine(Qae.calls _ _ l0 0 v _ ?side1 ?side2 A2.out).mono ?_);(case side1=>repeat(first|exact(Kd.V_reads' J.out).2.2 |(with_reducible refine Kd.C_alloc ?_ _) |(with_reducible refine Kd.C_drewN ?_ _) |(with_reducible refine Kd.C_drew ?_)));(case side2=>exact(Kd.V_reads' J.out).2.1);rintro e w' ⟨rfl,⟨nd,rfl⟩⟩;refine⟨_,rfl,?_⟩))
   go_ret2
   exact⟨_,by first|rfl |(simp[Qib,Qic]<;>rfl) |(simp[*,Qib,Qic]<;>rfl),by first|exact Kd.R_nil _ _ _ _ _|exact Kd.N_nil _ _ _ _ _|exact Kd.V_nil _ _ _ _ _|exact Kd.Q_nil _ _ _ _ _|exact Kd.S_nil _ _ _ _ _,qq_b⟩
  ·rw [if_neg c4]at H;have ak:((l0.length:Int) == 0)=false:=beq_eq_false_iff_ne.mpr c4;have al:((l0.length:Int) != 0)=true:=bne_iff_ne.mpr c4;have bd:¬(l0=[]):=fun h_=>c4 (by rw[h_];rfl)
   have H':=QA H;clear H
   go_enter Tryz.func228,Tryz.ntmps228
   go_wp2_with (first |((with_reducible refine Qhw (f:=122) rfl ?_);refine Qfz (some 8) rfl rfl Tryz.func122 qq_5 rfl #[.slice A0 l0.length c0,.int .u8 0] rfl qq_1 ?_;(with_reducible refine(Qae.calls _ _ l0 0 v _ ?side1 ?side2 A2.out).mono ?_);(case side1=>repeat(first|exact(Kd.V_reads' J.out).2.2 |(with_reducible refine Kd.C_alloc ?_ _) |(with_reducible refine Kd.C_drewN ?_ _) |(with_reducible refine Kd.C_drew ?_)));(case side2=>exact(Kd.V_reads' J.out).2.1);rintro e w' ⟨rfl,⟨nd,rfl⟩⟩;refine⟨_,rfl,?_⟩))
   go_loopg [4,5] k (fun kq v4 v5 w'=>∃(q:List Int) (a:List Int),Aside0 (Qan.l0 kq l0 q a=some (r1,r2))∧Aside0 (kq≤k)∧Aside0 (Kd.V (Kd.int .u8) 5 w' w.heap.size (fun k_=>(P0_ k_∨w.heap.size≤k_)∧some k_≠(v4:Value).ownBlock) (.slice A0 l0.length c0) l0)∧Aside0 (Kd.R (Kd.int .u8) 5 w' w.heap.size (fun k_=>(w.heap.size≤k_)) v4 q)∧Aside0 (Kd.V (Kd.int .u8) 5 w' w.heap.size (fun k_=>(P0_ k_∨w.heap.size≤k_)∧some k_≠(v4:Value).ownBlock) v5 a)∧Aside0 (Below w.heap.size w w'))
   case atStart=>exact⟨(([]:List Int)),(l0),H',⟨Nat.le_refl _⟩,⟨by(with_reducible repeat(first|apply Kd.V_alloc|apply Kd.V_drewN|apply Kd.V_drew));exact Kd.V_mono J.out (fun _ hk=>⟨hk,(by simp[Value.ownBlock])⟩)⟩,⟨by first|exact Kd.R_nil _ _ _ _ _|exact Kd.N_nil _ _ _ _ _|exact Kd.V_nil _ _ _ _ _|exact Kd.Q_nil _ _ _ _ _|exact Kd.S_nil _ _ _ _ _⟩,⟨by(with_reducible repeat(first|apply Kd.V_alloc|apply Kd.V_drewN|apply Kd.V_drew));exact Kd.V_mono J.out (fun _ hk=>⟨hk,(by simp[Value.ownBlock])⟩)⟩,⟨qq_b⟩⟩
   case round =>
    clear H'
    try clear c3
    try clear aj
    try clear c4
    try clear ak
    try clear al
    try clear bd
    obtain⟨q,a,HA,HK1,HO_0,HO_4,HO_5,HB⟩:=hrel
    cases gk with
    | zero=>exact absurd HA.out (by simp[Qan.l0])
    | succ k1 =>
     have H:=HA.out;clear HA;simp only[Qan.l0]at H
     by_cases c5:(a.length:Int) > 0
     ·rw [if_pos c5]at H;have be:decide (0<(a.length:Int))=true:=decide_eq_true c5;have bf:decide (0<a.length)=true:=decide_eq_true (by omega);clear c5
      by_cases c6:0<(a.length:Int)
      ·rw [if_pos c6]at H;have bs:=decide_eq_true c6;have bu:decide (0<a.length)=true:=decide_eq_true (by omega);clear c6
       by_cases c7:(wrap64 (rd a 0)) > (a.length:Int)
       ·rw[if_pos c7]at H;have am:decide ((a.length:Int)<(wrap64 (rd a 0)))=true:=decide_eq_true c7;clear c7;simp only[Option.some.injEq,Prod.mk.injEq]at H;obtain⟨rfl,rfl⟩:=H;obtain⟨Ao8,co8,eo8⟩:=Kd.V_slice HO_5.out;subst eo8;have o:0≤(0:Int):=(by omega);have p:0<(a.length:Int):=of_decide_eq_true qq_3;obtain⟨g,A,n⟩:=Kd.at_int (Kd.V_reads' HO_5.out).2.2 0 o p
        cases A
        have qi358:(0<a.length)=True:=eq_true (by omega)
        (try rw[show((0:Int)).toNat=0 from rfl]at n)
        (try rw[Addr.add_zero']at n)
        replace o:=eq_true o;replace p:=eq_true p;go_wp2
        go_ret2
        exact⟨_,by first|rfl |(simp[Qib,Qic]<;>rfl) |(simp[*,Qib,Qic]<;>rfl),by first|exact Kd.R_nil _ _ _ _ _|exact Kd.N_nil _ _ _ _ _|exact Kd.V_nil _ _ _ _ _|exact Kd.Q_nil _ _ _ _ _|exact Kd.S_nil _ _ _ _ _,qq_b⟩
       ·rw [if_neg c7]at H;have am:decide ((a.length:Int)<(wrap64 (rd a 0)))=false:=decide_eq_false c7;clear c7
        by_cases c9:1≤(wrap64 (rd a 0))
        ·rw [if_pos c9]at H;have bg:=eq_true c9;have bh:=decide_eq_true c9;clear c9
         by_cases c10:(wrap64 (rd a 0))≤(a.length:Int)
         ·rw [if_pos c10]at H;have ay:=eq_true c10;have az:=decide_eq_true c10;clear c10;obtain⟨j,B⟩:∃y_:List Int,y_=((a.take ((wrap64 (rd a 0)):Int).toNat).drop 1):=⟨_,rfl⟩;replace H:(if q.length+j.length<140737488355328 then((some (q++j:List Int)).bind fun l=>(if 0≤(wrap64 (rd a 0))then((some (a.drop ((wrap64 (rd a 0)):Int).toNat:List Int)).bind fun d=>(if(wrap64 (rd a 0))≤254 then(if(d.length:Int) > 0 then(if l.length<140737488355328 then(Qan.l0 k1 l0 (l++[0]) d)else(none))else(Qan.l0 k1 l0 l d))else(Qan.l0 k1 l0 l d)))else(none)))else(none))=some (r1,r2):=by first |(rw[B];with_reducible exact H) |(have r:=(Option.bind_some _ _).symm.trans H;rw[B];with_reducible exact r) |(have r:=(Option.bind_some _ _).symm.trans H;with_reducible exact r)|with_reducible exact H |(rw[B];exact H)|exact H
          have s:=QA B;clear B
          by_cases ae:q.length+j.length<140737488355328
          ·rw [if_pos ae]at H;have aa:=QA ae;clear ae;obtain⟨l,D⟩:∃y_:List Int,y_=(q++j):=⟨_,rfl⟩;replace H:(if 0≤(wrap64 (rd a 0))then((some (a.drop ((wrap64 (rd a 0)):Int).toNat:List Int)).bind fun d=>(if(wrap64 (rd a 0))≤254 then(if(d.length:Int) > 0 then(if l.length<140737488355328 then(Qan.l0 k1 l0 (l++[0]) d)else(none))else(Qan.l0 k1 l0 l d))else(Qan.l0 k1 l0 l d)))else(none))=some (r1,r2):=by first |(rw[D];with_reducible exact H) |(have r:=(Option.bind_some _ _).symm.trans H;rw[D];with_reducible exact r) |(have r:=(Option.bind_some _ _).symm.trans H;with_reducible exact r)|with_reducible exact H |(rw[D];exact H)|exact H
           have ab:=QA D;clear D;obtain⟨ji12,hji12⟩:∃j_:Int,(wrap64 (rd a 0))=j_:=⟨_,rfl⟩;replace H:(if 0≤(ji12)then((some (a.drop ((ji12):Int).toNat:List Int)).bind fun d=>(if(ji12)≤254 then(if(d.length:Int) > 0 then(if l.length<140737488355328 then(Qan.l0 k1 l0 (l++[0]) d)else(none))else(Qan.l0 k1 l0 l d))else(Qan.l0 k1 l0 l d)))else(none))=some (r1,r2):=by first |(rw[hji12]at H;exact H) |(simp only[hji12]at H ⊢;exact H)
           (try rw[hji12]at am)
           (try rw[hji12]at bg)
           (try rw[hji12]at bh)
           (try rw[hji12]at ay)
           (try rw[hji12]at az)
           (try rw[hji12]at s)
           (try rw[hji12]at s)
           have bo:(IntKind.i64.wrap (rd a 0))=ji12:=(Qga _).trans hji12
           by_cases ac:0≤(ji12)
           ·rw [if_pos ac]at H;have bp:=eq_true ac;have bq:=decide_eq_true ac;clear ac;have br:=eq_true (of_decide_eq_true qq_3:(ji12)≤(a.length:Int));obtain⟨d,E⟩:∃y_:List Int,y_=(a.drop ((ji12):Int).toNat):=⟨_,rfl⟩;replace H:(if(ji12)≤254 then(if(d.length:Int) > 0 then(if l.length<140737488355328 then(Qan.l0 k1 l0 (l++[0]) d)else(none))else(Qan.l0 k1 l0 l d))else(Qan.l0 k1 l0 l d))=some (r1,r2):=by first |(rw[E];with_reducible exact H) |(have r:=(Option.bind_some _ _).symm.trans H;rw[E];with_reducible exact r) |(have r:=(Option.bind_some _ _).symm.trans H;with_reducible exact r)|with_reducible exact H |(rw[E];exact H)|exact H
            have y:=QA E;clear E
            by_cases Y:(ji12)≤254
            ·rw[if_pos Y]at H;have aA:=decide_eq_true Y;clear Y
             by_cases Z:(d.length:Int) > 0
             ·rw[if_pos Z]at H;have aC:decide (0<(d.length:Int))=true:=decide_eq_true Z;have aD:decide (0<d.length)=true:=decide_eq_true (by omega);clear Z
              by_cases af:l.length<140737488355328
              ·rw[if_pos af]at H;have aE:=QA af;clear af;obtain⟨an,G⟩:∃y_:List Int,y_=(l++[0]):=⟨_,rfl⟩;replace H:(Qan.l0 k1 l0 an d)=some (r1,r2):=by first |(rw[G];with_reducible exact H) |(have r:=(Option.bind_some _ _).symm.trans H;rw[G];with_reducible exact r) |(have r:=(Option.bind_some _ _).symm.trans H;with_reducible exact r)|with_reducible exact H |(rw[G];exact H)|exact H
               have aG:=QA G;clear G;have H':=QA H;clear H;obtain⟨Ao18,co18,eo18⟩:=Kd.V_slice HO_5.out;subst eo18;have o:0≤(0:Int):=(by omega);have p:0<(a.length:Int):=of_decide_eq_true qq_3;obtain⟨g,A,n⟩:=Kd.at_int (Kd.V_reads' HO_5.out).2.2 0 o p
               cases A
               have qi358:(0<a.length)=True:=eq_true (by omega)
               (try rw[show((0:Int)).toNat=0 from rfl]at n)
               (try rw[Addr.add_zero']at n)
               replace o:=eq_true o;replace p:=eq_true p;have ao:((ji12):Int)≤((a.length:Int):Int):=of_decide_eq_true qq_3;obtain⟨bv,hi019,_,hsz19,_⟩:=info_parts Qid;have hroom19:a.length≤co18:=(Kd.V_reads' HO_5.out).2.1;have hC19:Kd.F (Kd.int .u8) _ _ (some g) a.length a:=(Kd.V_at (base:=w.heap.size) HO_5.out).2.2;have ql19:(1:Int)≤((ji12):Int):=of_decide_eq_true qq_3;have hcut19:=Qep (P:=Tryz.prog) 47 5 .i64 .i64 Tryz.underlying47 hi019 1 hsz19 (some g) a.length co18 1 (ji12) (by omega) ql19 ao hroom19;have hr19:=Kd.F_mid (lo:=(1:Int).toNat) (hi:=((ji12):Int).toNat) (c:=co18) hC19 (by omega) (by omega) hroom19;obtain⟨aK,hA19⟩:∃A1,A1=(if co18=(1:Int).toNat then(some g)else((some g):Option Addr).map (·.add ((1:Int).toNat*1))):=⟨_,rfl⟩;obtain⟨aM,hc19⟩:∃c1,c1=co18-(1:Int).toNat:=⟨_,rfl⟩;have L:j.length=((ji12):Int).toNat-(1:Int).toNat:=(by rw[s.out,List.length_drop,List.length_take]<;>omega);rw[show((a).take ((ji12):Int).toNat).drop (1:Int).toNat=j from s.out.symm]at hr19;replace hr19:Kd.F (Kd.int .u8) _ _ aK j.length j:=(by rw[hA19];exact hr19);rw[← L,← hA19,← hc19]at hcut19;have HO363:=QA (show Kd.V (Kd.int .u8) 5 _ w.heap.size _ (.slice aK j.length aM) j from Kd.V_mk (by rw[L,hc19];exact Nat.sub_le_sub_right (Nat.le_trans (by omega) hroom19) _) hr19);have ag:=QA (show j.length≤aM from by rw[L,hc19];exact Nat.sub_le_sub_right (Nat.le_trans (by omega) hroom19) _);clear hr19 hC19 hroom19 hi019 hsz19 hc19;have KY19:=QA L;have KA19:=QA hA19;clear L hA19;replace ao:=eq_true ao
               go_wp2_with (first |((with_reducible refine Qhx (b:=.append) (xs:=#[.tmp 25,.tmp 28]) rfl ?_);(try(refine Qhn (by rfl) ?_;dsimp only));at_builtin;refine Kd.R_append_rows (Kd.int .u8) (w0:=w) w.heap.size rfl (.tmp 25) (.tmp 28) 47 5 (.int .u8 0) 1 rfl Tryz.underlying47 Qid rfl (by decide) (by omega) u4 q j _ _ _ (fun k_=>(w.heap.size≤k_)) (fun _=>False) rfl rfl ?aO ?aR (fun _ _ h=>h) (fun _ h=>h.elim) ?aF ?aB ?aS ?aL ?_;(case aR=>repeat(first|exact(Kd.V_reads' HO363.out).2.2 |(with_reducible refine Kd.C_alloc ?_ _) |(with_reducible refine Kd.C_drewN ?_ _) |(with_reducible refine Kd.C_drew ?_)));(case aB=>exact qq_b);(case aF=>exact(fun k_ hk=>(Nat.le_trans (Qer qq_b) hk)));(case aO=>exact qq_17);(case aS=>exact(Qer qq_b));(case aL=>have:=aa.out;omega);intro ad bD ho hb hg hat;rw[← ab.out]at ho;have n_:=qn5 (Kd.V_afterv (ok:=(fun k_=>(P0_ k_∨w.heap.size≤k_))) qq_21 hg hat) (Kd.V_afterv (ok:=(fun k_=>(P0_ k_∨w.heap.size≤k_))) qq_20 hg hat) (Kd.V_afterv (ok:=(fun k_=>(P0_ k_∨w.heap.size≤k_))) qq_28 hg hat) (hb) (ho);clear HO_0 HO_5 HO363 HB HO_4;obtain⟨HO_0,HO_5,HO363,HB,z⟩:=n_;clear ho hb hg hat;have ap:((ji12):Int)≤((a.length:Int):Int):=of_decide_eq_true qq_3;obtain⟨bw,hi021,_,hsz21,_⟩:=info_parts Qid;have hroom21:a.length≤co18:=(Kd.V_reads' HO_5.out).2.1;have hC21:Kd.F (Kd.int .u8) _ _ (some g) a.length a:=(Kd.V_at (base:=w.heap.size) HO_5.out).2.2;have bi:(0:Int)≤((ji12):Int):=of_decide_eq_true qq_3;have hcut21:=Qef (P:=Tryz.prog) 47 5 .i64 Tryz.underlying47 hi021 1 hsz21 (some g) a.length co18 (ji12) bi ap;have hr21:=Kd.F_cut (m:=((ji12):Int).toNat) (c:=co18) hC21 (by omega) hroom21;obtain⟨aN,hA21⟩:∃A1,A1=(if co18=((ji12):Int).toNat then(some g)else((some g):Option Addr).map (·.add (((ji12):Int).toNat*1))):=⟨_,rfl⟩;obtain⟨aQ,hc21⟩:∃c1,c1=co18-((ji12):Int).toNat:=⟨_,rfl⟩;have O:d.length=a.length-((ji12):Int).toNat:=(by rw[y.out,List.length_drop]<;>omega);rw[show(a).drop ((ji12):Int).toNat=d from y.out.symm]at hr21;replace hr21:Kd.F (Kd.int .u8) _ _ aN d.length d:=(by rw[hA21];exact hr21);rw[← O,← hA21,← hc21]at hcut21;have t:=QA (show Kd.V (Kd.int .u8) 5 _ w.heap.size _ (.slice aN d.length aQ) d from Kd.V_mk (by rw[O,hc21];exact Nat.sub_le_sub_right hroom21 _) hr21);have ah:=QA (show d.length≤aQ from by rw[O,hc21];exact Nat.sub_le_sub_right hroom21 _);clear hr21 hC21 hroom21 hi021 hsz21 hc21;have KY21:=QA O;have KA21:=QA hA21;clear O hA21;replace ap:=eq_true ap) |((with_reducible refine Qhx (b:=.append) (xs:=#[.tmp 40,.tmp 41]) rfl ?_);(try(refine Qhn (by rfl) ?_;dsimp only));at_builtin;refine Kd.R_append (Kd.int .u8) (w0:=w) w.heap.size rfl (.tmp 40) (.tmp 41) 47 5 (.int .u8 0) 1 rfl Tryz.underlying47 Qid rfl (by decide) (by omega) ad l 0 [.int .u8 0] (fun k_=>(w.heap.size≤k_)) (fun _=>False) rfl rfl ?aP (fun _ hk=>hk.elim) ?aF ?aO ?aB ?aS ?aL ?_;(case aP=>exact rfl);(case aB=>exact qq_b);(case aF=>exact(fun k_ hk=>(Nat.le_trans (Qer qq_b) hk)));(case aO=>exact(by(with_reducible repeat(first|apply Kd.R_alloc|apply Kd.R_drewN|apply Kd.R_drew));exact z.out));(case aS=>exact(Qer qq_b));(case aL=>have:=aE.out;omega);intro bx bE ho hb hg hat;rw[← aG.out]at ho;have n_:=qn6 (Kd.V_afterv (ok:=(fun k_=>(P0_ k_∨w.heap.size≤k_))) qq_21 hg hat) (Kd.V_afterv (ok:=(fun k_=>(P0_ k_∨w.heap.size≤k_))) qq_20 hg hat) (Kd.V_afterv (ok:=(fun k_=>(P0_ k_∨w.heap.size≤k_))) qq_28 hg hat) (Kd.V_afterv (ok:=(fun k_=>(P0_ k_∨w.heap.size≤k_))) (by(with_reducible repeat(first|apply Kd.V_alloc|apply Kd.V_drewN|apply Kd.V_drew));exact t.out) hg hat) (hb) (ho);clear HO_0 HO_5 HO363 t HB z;obtain⟨HO_0,HO_5,HO363,t,HB,aH⟩:=n_;clear ho hb hg hat))
               go_roundg k1
               case measure=>have:=HK1.out;omega
               case rel=>exact⟨(an),(d),H',⟨by have:=HK1.out;omega⟩,⟨by(with_reducible repeat(first|apply Kd.V_alloc|apply Kd.V_drewN|apply Kd.V_drew));exact HO_0.out⟩,⟨by(with_reducible repeat(first|apply Kd.R_alloc|apply Kd.R_drewN|apply Kd.R_drew));exact aH.out⟩,⟨by(with_reducible repeat(first|apply Kd.V_alloc|apply Kd.V_drewN|apply Kd.V_drew));exact t.out⟩,⟨qq_b⟩⟩
              ·rw[if_neg af]at H;exact absurd H (by simp)
             ·rw[if_neg Z]at H;have aC:decide (0<(d.length:Int))=false:=decide_eq_false Z;have aD:decide (0<d.length)=false:=decide_eq_false (by omega);clear Z;have H':=QA H;clear H;obtain⟨Ao23,co23,eo23⟩:=Kd.V_slice HO_5.out;subst eo23;have o:0≤(0:Int):=(by omega);have p:0<(a.length:Int):=of_decide_eq_true qq_3;obtain⟨g,A,n⟩:=Kd.at_int (Kd.V_reads' HO_5.out).2.2 0 o p
              cases A
              have qi358:(0<a.length)=True:=eq_true (by omega)
              (try rw[show((0:Int)).toNat=0 from rfl]at n)
              (try rw[Addr.add_zero']at n)
              replace o:=eq_true o;replace p:=eq_true p;have aq:((ji12):Int)≤((a.length:Int):Int):=of_decide_eq_true qq_3;obtain⟨bz,hi024,_,hsz24,_⟩:=info_parts Qid;have hroom24:a.length≤co23:=(Kd.V_reads' HO_5.out).2.1;have hC24:Kd.F (Kd.int .u8) _ _ (some g) a.length a:=(Kd.V_at (base:=w.heap.size) HO_5.out).2.2;have ql24:(1:Int)≤((ji12):Int):=of_decide_eq_true qq_3;have hcut24:=Qep (P:=Tryz.prog) 47 5 .i64 .i64 Tryz.underlying47 hi024 1 hsz24 (some g) a.length co23 1 (ji12) (by omega) ql24 aq hroom24;have hr24:=Kd.F_mid (lo:=(1:Int).toNat) (hi:=((ji12):Int).toNat) (c:=co23) hC24 (by omega) (by omega) hroom24;obtain⟨aT,hA24⟩:∃A1,A1=(if co23=(1:Int).toNat then(some g)else((some g):Option Addr).map (·.add ((1:Int).toNat*1))):=⟨_,rfl⟩;obtain⟨aU,hc24⟩:∃c1,c1=co23-(1:Int).toNat:=⟨_,rfl⟩;have T:j.length=((ji12):Int).toNat-(1:Int).toNat:=(by rw[s.out,List.length_drop,List.length_take]<;>omega);rw[show((a).take ((ji12):Int).toNat).drop (1:Int).toNat=j from s.out.symm]at hr24;replace hr24:Kd.F (Kd.int .u8) _ _ aT j.length j:=(by rw[hA24];exact hr24);rw[← T,← hA24,← hc24]at hcut24;have HO363:=QA (show Kd.V (Kd.int .u8) 5 _ w.heap.size _ (.slice aT j.length aU) j from Kd.V_mk (by rw[T,hc24];exact Nat.sub_le_sub_right (Nat.le_trans (by omega) hroom24) _) hr24);have ag:=QA (show j.length≤aU from by rw[T,hc24];exact Nat.sub_le_sub_right (Nat.le_trans (by omega) hroom24) _);clear hr24 hC24 hroom24 hi024 hsz24 hc24;have KY24:=QA T;have KA24:=QA hA24;clear T hA24;replace aq:=eq_true aq
              go_wp2_with (first |((with_reducible refine Qhx (b:=.append) (xs:=#[.tmp 25,.tmp 28]) rfl ?_);(try(refine Qhn (by rfl) ?_;dsimp only));at_builtin;refine Kd.R_append_rows (Kd.int .u8) (w0:=w) w.heap.size rfl (.tmp 25) (.tmp 28) 47 5 (.int .u8 0) 1 rfl Tryz.underlying47 Qid rfl (by decide) (by omega) u4 q j _ _ _ (fun k_=>(w.heap.size≤k_)) (fun _=>False) rfl rfl ?aO ?aR (fun _ _ h=>h) (fun _ h=>h.elim) ?aF ?aB ?aS ?aL ?_;(case aR=>repeat(first|exact(Kd.V_reads' HO363.out).2.2 |(with_reducible refine Kd.C_alloc ?_ _) |(with_reducible refine Kd.C_drewN ?_ _) |(with_reducible refine Kd.C_drew ?_)));(case aB=>exact qq_b);(case aF=>exact(fun k_ hk=>(Nat.le_trans (Qer qq_b) hk)));(case aO=>exact qq_17);(case aS=>exact(Qer qq_b));(case aL=>have:=aa.out;omega);intro ad bF ho hb hg hat;rw[← ab.out]at ho;have n_:=qn5 (Kd.V_afterv (ok:=(fun k_=>(P0_ k_∨w.heap.size≤k_))) qq_21 hg hat) (Kd.V_afterv (ok:=(fun k_=>(P0_ k_∨w.heap.size≤k_))) qq_20 hg hat) (Kd.V_afterv (ok:=(fun k_=>(P0_ k_∨w.heap.size≤k_))) qq_28 hg hat) (hb) (ho);clear HO_0 HO_5 HO363 HB HO_4;obtain⟨HO_0,HO_5,HO363,HB,z⟩:=n_;clear ho hb hg hat;have ar:((ji12):Int)≤((a.length:Int):Int):=of_decide_eq_true qq_3;obtain⟨bA,hi026,_,hsz26,_⟩:=info_parts Qid;have hroom26:a.length≤co23:=(Kd.V_reads' HO_5.out).2.1;have hC26:Kd.F (Kd.int .u8) _ _ (some g) a.length a:=(Kd.V_at (base:=w.heap.size) HO_5.out).2.2;have bj:(0:Int)≤((ji12):Int):=of_decide_eq_true qq_3;have hcut26:=Qef (P:=Tryz.prog) 47 5 .i64 Tryz.underlying47 hi026 1 hsz26 (some g) a.length co23 (ji12) bj ar;have hr26:=Kd.F_cut (m:=((ji12):Int).toNat) (c:=co23) hC26 (by omega) hroom26;obtain⟨aV,hA26⟩:∃A1,A1=(if co23=((ji12):Int).toNat then(some g)else((some g):Option Addr).map (·.add (((ji12):Int).toNat*1))):=⟨_,rfl⟩;obtain⟨aW,hc26⟩:∃c1,c1=co23-((ji12):Int).toNat:=⟨_,rfl⟩;have U:d.length=a.length-((ji12):Int).toNat:=(by rw[y.out,List.length_drop]<;>omega);rw[show(a).drop ((ji12):Int).toNat=d from y.out.symm]at hr26;replace hr26:Kd.F (Kd.int .u8) _ _ aV d.length d:=(by rw[hA26];exact hr26);rw[← U,← hA26,← hc26]at hcut26;have t:=QA (show Kd.V (Kd.int .u8) 5 _ w.heap.size _ (.slice aV d.length aW) d from Kd.V_mk (by rw[U,hc26];exact Nat.sub_le_sub_right hroom26 _) hr26);have ah:=QA (show d.length≤aW from by rw[U,hc26];exact Nat.sub_le_sub_right hroom26 _);clear hr26 hC26 hroom26 hi026 hsz26 hc26;have KY26:=QA U;have KA26:=QA hA26;clear U hA26;replace ar:=eq_true ar))
              go_roundg k1
              case measure=>have:=HK1.out;omega
              case rel=>exact⟨(l),(d),H',⟨by have:=HK1.out;omega⟩,⟨by(with_reducible repeat(first|apply Kd.V_alloc|apply Kd.V_drewN|apply Kd.V_drew));exact HO_0.out⟩,⟨by(with_reducible repeat(first|apply Kd.R_alloc|apply Kd.R_drewN|apply Kd.R_drew));exact z.out⟩,⟨by(with_reducible repeat(first|apply Kd.V_alloc|apply Kd.V_drewN|apply Kd.V_drew));exact t.out⟩,⟨qq_b⟩⟩
            ·rw[if_neg Y]at H;have aA:=decide_eq_false Y;clear Y;have H':=QA H;clear H;obtain⟨Ao27,co27,eo27⟩:=Kd.V_slice HO_5.out;subst eo27;have o:0≤(0:Int):=(by omega);have p:0<(a.length:Int):=of_decide_eq_true qq_3;obtain⟨g,A,n⟩:=Kd.at_int (Kd.V_reads' HO_5.out).2.2 0 o p
             cases A
             have qi358:(0<a.length)=True:=eq_true (by omega)
             (try rw[show((0:Int)).toNat=0 from rfl]at n)
             (try rw[Addr.add_zero']at n)
             replace o:=eq_true o;replace p:=eq_true p;have au:((ji12):Int)≤((a.length:Int):Int):=of_decide_eq_true qq_3;obtain⟨bB,hi028,_,hsz28,_⟩:=info_parts Qid;have hroom28:a.length≤co27:=(Kd.V_reads' HO_5.out).2.1;have hC28:Kd.F (Kd.int .u8) _ _ (some g) a.length a:=(Kd.V_at (base:=w.heap.size) HO_5.out).2.2;have ql28:(1:Int)≤((ji12):Int):=of_decide_eq_true qq_3;have hcut28:=Qep (P:=Tryz.prog) 47 5 .i64 .i64 Tryz.underlying47 hi028 1 hsz28 (some g) a.length co27 1 (ji12) (by omega) ql28 au hroom28;have hr28:=Kd.F_mid (lo:=(1:Int).toNat) (hi:=((ji12):Int).toNat) (c:=co27) hC28 (by omega) (by omega) hroom28;obtain⟨aX,hA28⟩:∃A1,A1=(if co27=(1:Int).toNat then(some g)else((some g):Option Addr).map (·.add ((1:Int).toNat*1))):=⟨_,rfl⟩;obtain⟨aY,hc28⟩:∃c1,c1=co27-(1:Int).toNat:=⟨_,rfl⟩;have W:j.length=((ji12):Int).toNat-(1:Int).toNat:=(by rw[s.out,List.length_drop,List.length_take]<;>omega);rw[show((a).take ((ji12):Int).toNat).drop (1:Int).toNat=j from s.out.symm]at hr28;replace hr28:Kd.F (Kd.int .u8) _ _ aX j.length j:=(by rw[hA28];exact hr28);rw[← W,← hA28,← hc28]at hcut28;have HO363:=QA (show Kd.V (Kd.int .u8) 5 _ w.heap.size _ (.slice aX j.length aY) j from Kd.V_mk (by rw[W,hc28];exact Nat.sub_le_sub_right (Nat.le_trans (by omega) hroom28) _) hr28);have ag:=QA (show j.length≤aY from by rw[W,hc28];exact Nat.sub_le_sub_right (Nat.le_trans (by omega) hroom28) _);clear hr28 hC28 hroom28 hi028 hsz28 hc28;have KY28:=QA W;have KA28:=QA hA28;clear W hA28;replace au:=eq_true au
             go_wp2_with (first |((with_reducible refine Qhx (b:=.append) (xs:=#[.tmp 25,.tmp 28]) rfl ?_);(try(refine Qhn (by rfl) ?_;dsimp only));at_builtin;refine Kd.R_append_rows (Kd.int .u8) (w0:=w) w.heap.size rfl (.tmp 25) (.tmp 28) 47 5 (.int .u8 0) 1 rfl Tryz.underlying47 Qid rfl (by decide) (by omega) u4 q j _ _ _ (fun k_=>(w.heap.size≤k_)) (fun _=>False) rfl rfl ?aO ?aR (fun _ _ h=>h) (fun _ h=>h.elim) ?aF ?aB ?aS ?aL ?_;(case aR=>repeat(first|exact(Kd.V_reads' HO363.out).2.2 |(with_reducible refine Kd.C_alloc ?_ _) |(with_reducible refine Kd.C_drewN ?_ _) |(with_reducible refine Kd.C_drew ?_)));(case aB=>exact qq_b);(case aF=>exact(fun k_ hk=>(Nat.le_trans (Qer qq_b) hk)));(case aO=>exact qq_17);(case aS=>exact(Qer qq_b));(case aL=>have:=aa.out;omega);intro ad bG ho hb hg hat;rw[← ab.out]at ho;have n_:=qn5 (Kd.V_afterv (ok:=(fun k_=>(P0_ k_∨w.heap.size≤k_))) qq_21 hg hat) (Kd.V_afterv (ok:=(fun k_=>(P0_ k_∨w.heap.size≤k_))) qq_20 hg hat) (Kd.V_afterv (ok:=(fun k_=>(P0_ k_∨w.heap.size≤k_))) qq_28 hg hat) (hb) (ho);clear HO_0 HO_5 HO363 HB HO_4;obtain⟨HO_0,HO_5,HO363,HB,z⟩:=n_;clear ho hb hg hat;have av:((ji12):Int)≤((a.length:Int):Int):=of_decide_eq_true qq_3;obtain⟨bC,hi030,_,hsz30,_⟩:=info_parts Qid;have hroom30:a.length≤co27:=(Kd.V_reads' HO_5.out).2.1;have hC30:Kd.F (Kd.int .u8) _ _ (some g) a.length a:=(Kd.V_at (base:=w.heap.size) HO_5.out).2.2;have bk:(0:Int)≤((ji12):Int):=of_decide_eq_true qq_3;have hcut30:=Qef (P:=Tryz.prog) 47 5 .i64 Tryz.underlying47 hi030 1 hsz30 (some g) a.length co27 (ji12) bk av;have hr30:=Kd.F_cut (m:=((ji12):Int).toNat) (c:=co27) hC30 (by omega) hroom30;obtain⟨aZ,hA30⟩:∃A1,A1=(if co27=((ji12):Int).toNat then(some g)else((some g):Option Addr).map (·.add (((ji12):Int).toNat*1))):=⟨_,rfl⟩;obtain⟨ba,hc30⟩:∃c1,c1=co27-((ji12):Int).toNat:=⟨_,rfl⟩;have X:d.length=a.length-((ji12):Int).toNat:=(by rw[y.out,List.length_drop]<;>omega);rw[show(a).drop ((ji12):Int).toNat=d from y.out.symm]at hr30;replace hr30:Kd.F (Kd.int .u8) _ _ aZ d.length d:=(by rw[hA30];exact hr30);rw[← X,← hA30,← hc30]at hcut30;have t:=QA (show Kd.V (Kd.int .u8) 5 _ w.heap.size _ (.slice aZ d.length ba) d from Kd.V_mk (by rw[X,hc30];exact Nat.sub_le_sub_right hroom30 _) hr30);have ah:=QA (show d.length≤ba from by rw[X,hc30];exact Nat.sub_le_sub_right hroom30 _);clear hr30 hC30 hroom30 hi030 hsz30 hc30;have KY30:=QA X;have KA30:=QA hA30;clear X hA30;replace av:=eq_true av))
             go_roundg k1
             case measure=>have:=HK1.out;omega
             case rel=>exact⟨(l),(d),H',⟨by have:=HK1.out;omega⟩,⟨by(with_reducible repeat(first|apply Kd.V_alloc|apply Kd.V_drewN|apply Kd.V_drew));exact HO_0.out⟩,⟨by(with_reducible repeat(first|apply Kd.R_alloc|apply Kd.R_drewN|apply Kd.R_drew));exact z.out⟩,⟨by(with_reducible repeat(first|apply Kd.V_alloc|apply Kd.V_drewN|apply Kd.V_drew));exact t.out⟩,⟨qq_b⟩⟩
           ·rw[if_neg ac]at H;exact absurd H (by simp)
          ·rw[if_neg ae]at H;exact absurd H (by simp)
         ·rw[if_neg c10]at H;exact absurd H (by simp)
        ·rw[if_neg c9]at H;exact absurd H (by simp)
      ·rw[if_neg c6]at H;exact absurd H (by simp)
     ·rw[if_neg c5]at H;have be:decide (0<(a.length:Int))=false:=decide_eq_false c5;have bf:decide (0<a.length)=false:=decide_eq_false (by omega);clear c5;replace H:=Option.bind_eq_some_iff.mp H;obtain⟨I,aw,H⟩:=H;have bb:=QA aw;clear aw;replace H:=Option.bind_eq_some_iff.mp H;obtain⟨bl,ax,H⟩:=H;have bc:=QA ax;clear ax
      by_cases ai:bl=true
      ·subst ai;rw[if_pos rfl]at H;simp only[Option.some.injEq,Prod.mk.injEq]at H;obtain⟨rfl,rfl⟩:=H;obtain⟨Ao34,co34,eo34⟩:=Kd.V_slice HO_5.out;subst eo34;obtain⟨Ao35,co35,eo35⟩:=Kd.R_slice HO_4.out;subst eo35
       go_wp2_with (first |((with_reducible refine Qhw (f:=197) rfl ?_);refine Qfz (some 44) rfl rfl Tryz.func197 qq_5 rfl #[.slice Ao35 q.length co35] rfl qq_1 ?_;(with_reducible refine(Qam.calls _ _ q I _ ?side1 ?side2 bb.out).mono ?_);(case side1=>repeat(first|exact(Kd.R_reads' HO_4.out).2.2 |(with_reducible refine Kd.C_alloc ?_ _) |(with_reducible refine Kd.C_drewN ?_ _) |(with_reducible refine Kd.C_drew ?_)));(case side2=>exact(Kd.R_reads' HO_4.out).2.1);rintro e bH ⟨bn,rfl,x,hb⟩;refine⟨_,rfl,?_⟩;have n_:=qn5 (Kd.V_elder' qq_21 (Kd.R_base x) hb) (Kd.R_elder' qq_17 (Kd.R_base x) hb) (Kd.V_elder' qq_20 (Kd.R_base x) hb) (Kd.R_lower (Kd.R_new' (Kd.R_newM (M:=fun k_=>(w.heap.size≤k_)) x (Qer qq_b) (fun k_ h_=>h_)) (Kd.R_lt qq_17)) (Qer qq_b)) (Qes qq_b hb);clear HO_0 HO_4 HO_5 HB;obtain⟨HO_0,HO_4,HO_5,u,HB⟩:=n_;(try clear hb);(try clear hb2);(try clear hk);(try clear hi);(try clear x);obtain⟨Ao37,co37,eo37⟩:=Kd.R_slice u.out;subst eo37) |((with_reducible refine Qhw (f:=112) rfl ?_);refine Qfz (some 46) rfl rfl Tryz.func112 qq_5 rfl #[.slice Ao37 I.length co37,.slice A0 l0.length c0] rfl qq_1 ?_;(with_reducible refine(Qad.calls _ _ I _ _ l0 true _ ?side1 ?side2 ?side3 ?side4 bc.out).mono ?_);(case side1=>repeat(first|exact(Kd.R_reads' u.out).2.2 |(with_reducible refine Kd.C_alloc ?_ _) |(with_reducible refine Kd.C_drewN ?_ _) |(with_reducible refine Kd.C_drew ?_)));(case side2=>exact(Kd.R_reads' u.out).2.1);(case side3=>repeat(first|exact(Kd.V_reads' HO_0.out).2.2 |(with_reducible refine Kd.C_alloc ?_ _) |(with_reducible refine Kd.C_drewN ?_ _) |(with_reducible refine Kd.C_drew ?_)));(case side4=>exact(Kd.V_reads' HO_0.out).2.1);rintro e w' ⟨rfl,⟨nd,rfl⟩⟩;refine⟨_,rfl,?_⟩))
       go_ret2
       exact⟨_,by first|rfl |(simp[Qib,Qic]<;>rfl) |(simp[*,Qib,Qic]<;>rfl),by(with_reducible repeat(first|apply Kd.R_alloc|apply Kd.R_drewN|apply Kd.R_drew));exact Kd.R_mono HO_4.out (fun _ hk=>hk.1),qq_b⟩
      ·replace ai:=Bool.eq_false_iff.mpr ai;subst ai;rw[if_neg (show ¬(false=true)by decide)]at H;simp only[Option.some.injEq,Prod.mk.injEq]at H;obtain⟨rfl,rfl⟩:=H;obtain⟨Ao38,co38,eo38⟩:=Kd.V_slice HO_5.out;subst eo38;obtain⟨Ao39,co39,eo39⟩:=Kd.R_slice HO_4.out;subst eo39
       go_wp2_with (first |((with_reducible refine Qhw (f:=197) rfl ?_);refine Qfz (some 44) rfl rfl Tryz.func197 qq_5 rfl #[.slice Ao39 q.length co39] rfl qq_1 ?_;(with_reducible refine(Qam.calls _ _ q I _ ?side1 ?side2 bb.out).mono ?_);(case side1=>repeat(first|exact(Kd.R_reads' HO_4.out).2.2 |(with_reducible refine Kd.C_alloc ?_ _) |(with_reducible refine Kd.C_drewN ?_ _) |(with_reducible refine Kd.C_drew ?_)));(case side2=>exact(Kd.R_reads' HO_4.out).2.1);rintro e bI ⟨bn,rfl,x,hb⟩;refine⟨_,rfl,?_⟩;have n_:=qn5 (Kd.V_elder' qq_21 (Kd.R_base x) hb) (Kd.R_elder' qq_17 (Kd.R_base x) hb) (Kd.V_elder' qq_20 (Kd.R_base x) hb) (Kd.R_lower (Kd.R_new' (Kd.R_newM (M:=fun k_=>(w.heap.size≤k_)) x (Qer qq_b) (fun k_ h_=>h_)) (Kd.R_lt qq_17)) (Qer qq_b)) (Qes qq_b hb);clear HO_0 HO_4 HO_5 HB;obtain⟨HO_0,HO_4,HO_5,u,HB⟩:=n_;(try clear hb);(try clear hb2);(try clear hk);(try clear hi);(try clear x);obtain⟨Ao41,co41,eo41⟩:=Kd.R_slice u.out;subst eo41) |((with_reducible refine Qhw (f:=112) rfl ?_);refine Qfz (some 46) rfl rfl Tryz.func112 qq_5 rfl #[.slice Ao41 I.length co41,.slice A0 l0.length c0] rfl qq_1 ?_;(with_reducible refine(Qad.calls _ _ I _ _ l0 false _ ?side1 ?side2 ?side3 ?side4 bc.out).mono ?_);(case side1=>repeat(first|exact(Kd.R_reads' u.out).2.2 |(with_reducible refine Kd.C_alloc ?_ _) |(with_reducible refine Kd.C_drewN ?_ _) |(with_reducible refine Kd.C_drew ?_)));(case side2=>exact(Kd.R_reads' u.out).2.1);(case side3=>repeat(first|exact(Kd.V_reads' HO_0.out).2.2 |(with_reducible refine Kd.C_alloc ?_ _) |(with_reducible refine Kd.C_drewN ?_ _) |(with_reducible refine Kd.C_drew ?_)));(case side4=>exact(Kd.V_reads' HO_0.out).2.1);rintro e w' ⟨rfl,⟨nd,rfl⟩⟩;refine⟨_,rfl,?_⟩))
       go_ret2
       exact⟨_,by first|rfl |(simp[Qib,Qic]<;>rfl) |(simp[*,Qib,Qic]<;>rfl),by first|exact Kd.R_nil _ _ _ _ _|exact Kd.N_nil _ _ _ _ _|exact Kd.V_nil _ _ _ _ _|exact Kd.Q_nil _ _ _ _ _|exact Kd.S_nil _ _ _ _ _,qq_b⟩
def fascicleref07_Body.T2:Bool × List (List Nat × List Nat):=(true,[([],[]),([0],[0]),([1],[1]),([2],[2]),([],[]),([4],[4]),([5,2],[5]),([3,6],[3,6]),([7,6,0,1,2,3,4,5,6,7],[7])])
def fascicleref07_Body.T3:Bool × List (List Nat × List Nat):=(true,[([],[]),([0],[0]),([1],[1]),([2],[2]),([],[]),([4],[4]),([5,2],[5]),([3,6],[3,6]),([],[]),([8],[8]),([9,6],[9]),([7,10],[7,10]),([11,10,0,1,2,3,4,5,6,7,8,9,10,11],[11])])
def fascicleref09_Head.T1:Bool × List (List Nat × List Nat):=(true,[([],[]),([0],[0]),([1],[1]),([2],[2]),([3],[3]),([],[]),([5],[5]),([6],[6]),([7],[7]),([4,8],[4,8]),([],[]),([10,8],[10]),([9,11],[9,11]),([12,11],[12]),([13,13,0,1,2,3,4,5,6,7,8,9,10,11,12,13],[13])])
def fascicleref09_Head.B1:List Nat:=[0,1,3,7,15,0,32,96,224,511,0,1504,4095,8191,16383]
def fascicleref14_Empty.T1:Bool × List (List Nat × List Nat):=(true,[([],[]),([],[]),([],[]),([],[]),([2,3],[2,3]),([4],[4]),([0,1,5],[0,1,5]),([6,4,0,1,2,3,4,5,6],[6])])
def fascicleref14_Empty.B1:List Nat:=[0,0,0,0,12,28,63,127]
def fascicleref13_Text.T1:Bool × List (List Nat × List Nat):=(true,[([],[]),([0],[0]),([1],[1]),([2],[2]),([3],[3]),([4],[4]),([],[]),([6],[6]),([7],[7]),([8,4],[8]),([5,9],[5,9]),([10,9,0,1,2,3,4,5,6,7,8,9,10],[10])])
def fascicleref13_Text.B1:List Nat:=[0,1,3,7,15,31,0,64,192,479,1023,2047]
def fascicleref13_Text.T2:Bool × List (List Nat × List Nat):=(true,[([],[]),([],[]),([1],[1]),([2],[2]),([0,3],[0,3]),([],[]),([5],[5]),([6,3],[6]),([7,7],[7]),([4,8],[4,8]),([9,8],[9]),([10,10,0,1,2,3,4,5,6,7,8,9,10],[10])])
end Go.Proofs.YtepkfjmjidjedaaGreat.C
end
section
namespace Go.Proofs.YtepkfjmjidjedaaGreat.C
open Go.RowKit Go.Proofs.YtepkfjmjidjedaaGreatW.PrintWords Go.Proofs.YtepkfjmjidjedaaGreatW.PrintLast Go.Proofs.YtepkfjmjidjedaaGreatW.PrintMore
abbrev Room5:=Int × Int × Int × Int × Int
def IsBd(W:World)(b g:Nat)(R:Room5)(fr:List Int)(tb:List S177):Prop :=
 ∃fv tv,W.heap[g]? = some (.cells #[.int .u8 R.1,.int .u32 R.2.1,.int .u32 R.2.2.1,.int .i64 R.2.2.2.1,.int .i64 R.2.2.2.2,fv,tv] 165 (0,0))∧R8 W b fv fr∧Kd.R k177 177 W b (fun _=>True) tv tb
theorem IsBd.kept{W W':World}{b g:Nat}{R:Room5}{fr:List Int}{tb:List S177}(h:IsBd W b g R fr tb)(hb:Below W.heap.size W W'):IsBd W' b g R fr tb:=by
 obtain⟨fv,tv,h1,h2,h3⟩:=h;exact⟨fv,tv,Qds h1 hb,h2.kept hb,Kd.R_below h3 hb⟩
theorem room5{W:World}{B:Nat}{e s n u c:Int}(h:W.heap[B]? = some (.cells #[.int .u8 e,.int .u32 s,.int .u32 n,.int .i64 u,.int .i64 c] 125 (0,0))) :
  W.cell? ⟨B,0,none⟩=some (.int .u8 e)∧W.cell? ⟨B,1,none⟩=some (.int .u32 s)∧W.cell? ⟨B,2,none⟩=some (.int .u32 n)∧W.cell? ⟨B,3,none⟩=some (.int .i64 u)∧W.cell? ⟨B,4,none⟩=some (.int .i64 c) :=
 ⟨(Qdf h 0).trans rfl,(Qdf h 1).trans rfl,(Qdf h 2).trans rfl,(Qdf h 3).trans rfl,(Qdf h 4).trans rfl⟩
theorem Qlm(e s n u c:Int)(hd:List Int)(w:World)(hp:Qbq.f e s n=some (e,s,n,u,c,0))(hh:Qbh.f e s n=some (hd,0)) :
  Calls Tryz.prog 45 #[.agg #[.int .u8 e,.int .u32 s],.int .u32 n] w fun ee w'=>∃g,ee=.returned (.tuple #[.pointer (some ⟨g,0,none⟩),.int .i64 0])∧IsBd w' w.heap.size g (e,s,n,u,c) hd []∧Below w.heap.size w w'∧w.heap.size≤g:=by
 have hu:=Tryz.underlying40;have hu2:=Tryz.underlying125;have hu3:=Tryz.underlying165;have HP:=QA hp;have HH:=QA hh;clear hp hh;have hba:Below w.heap.size w (w.alloc (.cells #[.int .u8 e,.int .u32 s] 40)):=Qci (Below.refl _ _) _;have hbn:=Qdt w (.cells #[.int .u8 e,.int .u32 s] 40)
 go_enter Tryz.func45,Tryz.ntmps45
 go_wp2_with (first
  |(go_at_call 58;refine(Qbq.calls e s n _ _ _ _ _ _ _ HP.out).mono ?_;rintro ee w1 ⟨rfl,hb1⟩;have hk1:=Qds hbn hb1;have hw1:=QA (Qcl hba hba.size hb1);have hs1:=QA (show w.heap.size<w1.heap.size from Qde hk1);have hk1':=Qdp hk1 (.cells #[.int .u8 e,.int .u32 s,.int .u32 n,.int .i64 u,.int .i64 c] 125);obtain⟨c0,c1⟩:=box2 hk1';clear hk1 hb1 hbn hba)
  |(go_at_call 90;refine(Qbh.calls e s n hd 0 _ HH.out).mono ?_;rintro ee w3 ⟨v3,rfl,hR3,hb3⟩;have hk3:=Qds (Qdt w1 (.cells #[.int .u8 e,.int .u32 s,.int .u32 n,.int .i64 u,.int .i64 c] 125)) hb3;obtain⟨d0,d1,d2,d3,d4⟩:=room5 hk3;obtain⟨A3,n3,c3,rfl⟩:=R8.shape hR3))
 refine bodyPost_ret (results_tmp2 rfl _ _ _) rfl ?_;have hz1:=Nat.le_of_lt hs1.out;have hbr:Below w1.heap.size w1 (w1.alloc (.cells #[.int .u8 e,.int .u32 s,.int .u32 n,.int .i64 u,.int .i64 c] 125)):=Qci (Below.refl _ _) _;have hz3:w.heap.size≤w3.heap.size:=Nat.le_trans (Nat.le_trans hz1 hbr.size) hb3.size;refine⟨w3.heap.size,rfl,⟨_,_,Qdt w3 _,?_,Kd.R_nil _ _ _ _ _⟩,?_,hz3⟩
 ·exact R8.low (R8.kept hR3 (Qci (Below.refl _ _) _)) (Nat.le_trans hz1 hbr.size)
 ·exact((hw1.out.trans (Qis hbr hz1)).trans (Qis hb3 (Nat.le_trans hz1 hbr.size))).trans (Qis (Qci (Below.refl w3.heap.size w3) _) hz3)
theorem Qln(b g:Nat)(R:Room5)(fr:List Int)(tb:List S177)(w:World)(hI:IsBd w b g R fr tb)(hl:fr.length≤140737488355328) :
  Calls Tryz.prog 89 #[.pointer (some ⟨g,0,none⟩)] w fun e w'=>∃v:Value,e=.returned v∧R8 w' w.heap.size v fr∧Below w.heap.size w w':=by
 obtain⟨fv,tv,hv,hR,hT⟩:=hI;obtain⟨A,n,c,rfl,hn,hlc,hC⟩:=R8.reads hR;have hc:w.cell? ⟨g,5,none⟩=some (.slice A n c):=(Qdf hv 5).trans rfl;have hcl:=hC.1;have hu3:=Tryz.underlying165;have hcall:Calls Tryz.prog 151 #[.slice A n c] w fun e w'=>∃v0_:Value,e=.returned (v0_)∧R8 w' w.heap.size v0_ fr∧Below w.heap.size w w':=by
  subst hcl;exact Qit A c fr w hC hl
 clear hcl
 go_enter Tryz.func89,Tryz.ntmps89
 go_wp2_with (go_at_call 151;refine hcall.mono ?_;rintro e w' ⟨v1,rfl,hd,hb⟩)
 go_ret
 exact⟨_,rfl,hd,hb⟩
theorem Qlo(b0 b g:Nat)(R:Room5)(fr:List Int)(tb:List S177)(fs:List Int)(fsv:Value)(sz:Nat)(w:World)(hI:IsBd w b0 g R fr tb)(hF:R8 w b fsv fs)(hbw:b≤w.heap.size)(hsz:Qaq.f R.1 R.2.1=some (sz:Int))(hle:fs.length≤sz)(hs2:sz≤70368744177664) :
  Calls Tryz.prog 88 #[.pointer (some ⟨g,0,none⟩),fsv] w fun e w'=>∃v:Value,e=.returned v∧R8 w' b v (fs++List.replicate (sz-fs.length) 255)∧Below b w w':=by
 obtain⟨fv,tv,hv,hR,hT⟩:=hI;obtain⟨A,n,c,rfl,hn,hlc,hC⟩:=R8.reads hF;have hnf:n=fs.length:=hn.out;have hc0:w.cell? ⟨g,0,none⟩=some (.int .u8 R.1):=(Qdf hv 0).trans rfl;have hc1:w.cell? ⟨g,1,none⟩=some (.int .u32 R.2.1):=(Qdf hv 1).trans rfl;have hu:=Tryz.underlying40;have hu2:=Tryz.underlying125;have hu3:=Tryz.underlying165;have hnsz:n≤sz:=by omega
 have hsub:IntKind.i64.wrap ((sz:Int)-(n:Int))=((sz-n:Nat):Int):=by rw[IntWalk.i64_in _ (by omega)];omega
 have hsub2:(sz:Int)-(n:Int)=((sz-n:Nat):Int):=by omega
 obtain⟨k,hk⟩:∃k,k=sz-n:=⟨_,rfl⟩;rw[← hk]at hsub hsub2;have HK:=QA hk;have HSZ:=QA hsz;have HF:=QA hF;have HNF:=QA hnf;clear hk hsz hF hnf
 go_enter Tryz.func88,Tryz.ntmps88
 go_wp2_with (first
  |(go_at_call 57;refine(Qaq.calls _ _ _ _ HSZ.out).mono ?_;rintro e w1 ⟨rfl,hb1⟩)
  |(go_at_call 150;go_loud (refine(Qll _ _ 255 k _ (by have:=HK.out;omega) ?hrep).mono ?_;(case hrep=>exact Kd.C_of_reads (d:=(0:Int)) ⟨rfl,by omega,fun _=>⟨_,rfl,fun j hj=>by(obtain rfl:j=0:=(by omega));exact(Qdf (Qdt w1 _) 0).trans rfl⟩⟩);rintro e w2 ⟨A2,c2,rfl,hkc2,hC2,hb2⟩))
  |(at_builtin;refine Kd.R_append_rows (Kd.int .u8) (Rr:=fun x cs=>cs=[.int .u8 x]) (w0:=w) b rfl (.tmp 15) (.tmp 18) 47 5 (.int .u8 0) 1 rfl Tryz.underlying47 Qid rfl (by decide) (by omega) (.slice A n c) fs (List.replicate k 255) A2 k c2 (fun _=>True) (fun _=>False) rfl rfl ?bO hC2 (fun _ _ h=>h) (fun _ hk=>hk.elim) (fun _ _=>trivial) ?bB ?bS ?bL ?_;(case bO=>exact R8.kept (R8.kept (R8.kept HF.out hb1) (Qci (Below.refl _ _) _)) hb2);(case bB=>exact((Qis hb1 hbw).trans (Qis (Qci (Below.refl w1.heap.size w1) _) (Nat.le_trans hbw hb1.size))).trans (Qis hb2 (by rw[World.size_alloc];have:=hb1.size;omega)););(case bS=>have h1:=hb1.size;have h2:=hb2.size;rw[World.size_alloc]at h2;omega);(case bL=>have:=HK.out;have:=HNF.out;omega);intro v3 w3 a hb3 l hat3))
 go_ret
 refine⟨v3,rfl,?_,hb3⟩;have e1:k=sz-fs.length:=by rw[HK.out,HNF.out]
 rw[← e1];exact a
theorem Qlp(b g:Nat)(R:Room5)(fr:List Int)(tb:List S177)(sz:Nat)(w:World)(hI:IsBd w b g R fr tb)(hsz:Qaq.f R.1 R.2.1=some (sz:Int))(hle:fr.length≤sz)(hs2:sz≤70368744177664) :
  Calls Tryz.prog 47 #[.pointer (some ⟨g,0,none⟩)] w fun e w'=>∃v:Value,e=.returned v∧R8 w' w.heap.size v (fr++List.replicate (sz-fr.length) 255)∧Below w.heap.size w w':=by
 go_enter Tryz.func47,Tryz.ntmps47
 go_wp2_with (first
  |(go_at_call 89;refine(Qln b g R fr tb w hI (by omega)).mono ?_;rintro e w1 ⟨v1,rfl,hR1,hb1⟩)
  |(go_at_call 88;refine(Qlo b w.heap.size g R fr tb fr v1 sz w1 (hI.kept hb1) hR1 hb1.size hsz hle hs2).mono ?_;rintro e w2 ⟨v2,rfl,hR2,hb2⟩))
 go_ret
 exact⟨v2,rfl,hR2,hb1.trans hb2⟩
def Qlx(W:World)(g:Nat)(R:Room5)(fv tv:Value):Prop:=W.heap[g]? = some (.cells #[.int .u8 R.1,.int .u32 R.2.1,.int .u32 R.2.2.1,.int .i64 R.2.2.2.1,.int .i64 R.2.2.2.2,fv,tv] 165 (0,0))
theorem Qly{W:World}{g:Nat}{R:Room5}{fv tv:Value}(h:Qlx W g R fv tv) :
  W.cell? ⟨g,0,none⟩=some (.int .u8 R.1)∧W.cell? ⟨g,1,none⟩=some (.int .u32 R.2.1)∧W.cell? ⟨g,2,none⟩=some (.int .u32 R.2.2.1)∧W.cell? ⟨g,3,none⟩=some (.int .i64 R.2.2.2.1)∧W.cell? ⟨g,4,none⟩=some (.int .i64 R.2.2.2.2)∧W.cell? ⟨g,5,none⟩=some fv∧W.cell? ⟨g,6,none⟩=some tv :=
 ⟨(Qdf h 0).trans rfl,(Qdf h 1).trans rfl,(Qdf h 2).trans rfl,(Qdf h 3).trans rfl,(Qdf h 4).trans rfl,(Qdf h 5).trans rfl,(Qdf h 6).trans rfl⟩
theorem Qlz:(Tryz.prog.info? 177).map (fun i=>(i.zero,i.size,i.bytes))=some (some (.agg #[.int .u64 0,.int .u32 0]),2,16):=by kernel_rfl
theorem bd_set5{W:World}{b g:Nat}{R:Room5}(R':Room5){fv tv:Value}{fr:List Int}{tb:List S177}(hv:Qlx W g R fv tv)(hR:R8 W b fv fr)(hT:Kd.R k177 177 W b (fun _=>True) tv tb)(hbg:b≤g) :
  ∃W',W'=(((((W.setCell ⟨g,0,none⟩ (.int .u8 R'.1)).setCell ⟨g,1,none⟩ (.int .u32 R'.2.1)).setCell ⟨g,2,none⟩ (.int .u32 R'.2.2.1)).setCell ⟨g,3,none⟩ (.int .i64 R'.2.2.2.1)).setCell ⟨g,4,none⟩ (.int .i64 R'.2.2.2.2)) ∧
   Qlx W' g R' fv tv∧R8 W' b fv fr∧Kd.R k177 177 W' b (fun _=>True) tv tb∧Below b W W'∧∀k,k≠g→W'.heap[k]? = W.heap[k]?:=by
 have ht:∀q,q∈177 :: (k177).E→q≠165:=by decide
 have b1:=Qdc hv 0 (.int .u8 R'.1);have b2:=Qdc b1 1 (.int .u32 R'.2.1);have b3:=Qdc b2 2 (.int .u32 R'.2.2.1);have b4:=Qdc b3 3 (.int .i64 R'.2.2.2.1);have b5:=Qdc b4 4 (.int .i64 R'.2.2.2.2);refine⟨_,rfl,b5,?_,?_,?_,fun k hk=>?_⟩
 ·exact R8.set (R8.set (R8.set (R8.set (R8.set hR hv (by decide) 0 _) b1 (by decide) 1 _) b2 (by decide) 2 _) b3 (by decide) 3 _) b4 (by decide) 4 _
 ·exact Kd.R_set (Kd.R_set (Kd.R_set (Kd.R_set (Kd.R_set hT hv ht 0 _) b1 ht 1 _) b2 ht 2 _) b3 ht 3 _) b4 ht 4 _
 ·exact Qir (Qir (Qir (Qir (Qir (Below.refl _ _) hbg) hbg) hbg) hbg) hbg
 ·rw[Below.heap_setCell _ _ _ k hk,Below.heap_setCell _ _ _ k hk,Below.heap_setCell _ _ _ k hk,Below.heap_setCell _ _ _ k hk,Below.heap_setCell _ _ _ k hk]
def Tb(g:Nat)(w w':World):Prop:=∀k cs t,w.heap[k]? = some (.cells cs t (0,0))→t≠5→t≠177→k≠g→w'.heap[k]? = some (.cells cs t (0,0))
theorem Tb.below{g:Nat}{w w':World}(h:Below w.heap.size w w'):Tb g w w':=fun _ _ _ h1 _ _ _=>Qds h1 h
theorem Tb.trans{g:Nat}{a b c:World}(h:Tb g a b)(k:Tb g b c):Tb g a c:=fun _ _ _ h1 h2 h3 h4=>k _ _ _ (h _ _ _ h1 h2 h3 h4) h2 h3 h4
theorem Tb.set{g j:Nat}{w W:World}(h:Tb g w W)(v:Value):Tb g w (W.setCell ⟨g,j,none⟩ v):=fun _ _ _ h1 h2 h3 h4=>Qdd (h _ _ _ h1 h2 h3 h4) h4 v
theorem Tb.grown{g q:Nat}{w W W':World}{row:Option Nat}(h:Tb g w W)(hg:W.grownBy W' row)(hty:∀k,row=some k→∃cells,W.heap[k]? = some (.cells cells q (0,0)))(hq:q=5∨q=177):Tb g w W':=fun k cs t h1 h2 h3 h4=>by
 have h5:=h _ _ _ h1 h2 h3 h4;refine Qdh h5 hg (fun e=>?_);obtain⟨cells,hc⟩:=hty k e.symm;rw[hc]at h5
 injection h5 with h5
 injection h5 with _ h5
 rcases hq with hq|hq
 ·exact h2 (h5.symm.trans hq)
 ·exact h3 (h5.symm.trans hq)
theorem bd_Add(b g:Nat)(R R':Room5)(fr F:List Int)(tb:List S177)(d:Bool)(s:Int)(key v:ByteArray)(w:World)(hI:IsBd w b g R fr tb)(hbg:b≤g)(hbw:b≤w.heap.size)
  (hchk:chk d key v=0) (hput:Qbi.f d s key v=some (F,0)) (htl:Qbv.f R.1 R.2.1 F.length=some false) (htk:Qbu.f R.1 R.2.1 R.2.2.1 R.2.2.2.1 R.2.2.2.2 F.length=some (R'.1,R'.2.1,R'.2.2.1,R'.2.2.2.1,R'.2.2.2.2,0))
  (hl:fr.length+F.length≤70368744177664) (hk:key.size≤70368744177664) (ht:tb.length≤1099511627776) :
  Calls Tryz.prog 46 #[.pointer (some ⟨g,0,none⟩),.agg #[.bool d,.int .u64 s,.string key,.string v]] w fun e w'=>e=.returned (.tuple #[.int .u32 ((fr.length:Int)%4294967296),.int .i64 0])∧IsBd w' b g R' (fr++F) (tb++[⟨Qkt 0 (bytesOf key),(fr.length:Int)%4294967296⟩])∧Below b w w'∧Tb g w w':=by
 have hu:=Tryz.underlying36;have hu1:=Tryz.underlying40;have hu2:=Tryz.underlying125;have hu3:=Tryz.underlying165;obtain⟨fv,tv,hv,hR,hT⟩:=hI;obtain⟨AT,nT,cT,rfl⟩:∃A n c,tv=.slice A n c:=by
  obtain⟨A,c,e⟩:=Kd.R_slice hT;exact⟨A,_,c,e⟩
 obtain⟨A,n,c,rfl,hn,hlc,hC⟩:=R8.reads hR;have hv':Qlx w g R (.slice A n c) (.slice AT nT cT):=hv;have hgw:g<w.heap.size:=Qde hv;have hcheck:=Qki d s key v;rw[hchk]at hcheck;have HCK:=QA hcheck;have HPU:=QA hput;have HTL:=QA htl;have HTK:=QA htk;have HR:=QA hR;have HT:=QA hT;have HV:=QA hv';have r:=hn;clear hcheck hput htl htk hchk hR hT hv hC hn hv';have hba:Below w.heap.size w (w.alloc (.cells #[.bool d,.int .u64 s,.string key,.string v] 36)):=Qci (Below.refl _ _) _;have hbn:=Qdt w (.cells #[.bool d,.int .u64 s,.string key,.string v] 36)
 go_enter Tryz.func46,Tryz.ntmps46
 go_upto_region 12 with(first
  |(go_at_call 91;refine(Qbx.calls 1 _ s key v 0 _ HCK.out).mono ?_;rintro e w1 ⟨rfl,hb1⟩;have hB1:=QA (Qcl hba hba.size hb1);have hk1:=Qds hbn hb1;obtain⟨c0,c1,c2,c3⟩:=box4 hk1)
  |(go_at_call 84;refine(Qbi.calls _ s key v F 0 _ HPU.out).mono ?_;rintro e w2 ⟨vF,rfl,hRF,hb2⟩;have hB2:=QA (Qcl hB1.out hB1.out.size hb2);have hk2:=Qds hk1 hb2;obtain⟨AF,nF,cF,rfl,hnF,hlF,hCF⟩:=R8.reads hRF;have hv2:Qlx w2 g R (.slice A n c) (.slice AT nT cT):=Qds HV.out hB2.out;obtain⟨g0,g1,g2,g3,g4,g5,g6⟩:=Qly hv2;clear c0 c1 c2 c3)
  |(go_at_call 92;refine(Qbv.calls _ _ _ false _ (by rw[hnF.out];exact HTL.out)).mono ?_;rintro e w3 ⟨rfl,hb3⟩;have hB3:=QA (Qcl hB2.out hB2.out.size hb3);have hk3:=Qds hk2 hb3;have hv3:Qlx w3 g R (.slice A n c) (.slice AT nT cT):=Qds HV.out hB3.out;obtain⟨h0,h1,h2,h3,h4,h5,h6⟩:=Qly hv3;clear g0 g1 g2 g3 g4 g5 g6)
  |(go_at_call 93;refine(Qbu.calls _ _ _ _ _ _ _ _ _ _ _ _ _ (by rw[hnF.out];exact HTK.out)).mono ?_;rintro e w4 ⟨rfl,hb4⟩;have hB4:=QA (Qcl hB3.out hB3.out.size hb4);have hk4:=Qds hk3 hb4;have hv4:Qlx w4 g R (.slice A n c) (.slice AT nT cT):=Qds HV.out hB4.out;have hv5:Qlx (w4.alloc (.cells #[.int .u8 R'.1,.int .u32 R'.2.1,.int .u32 R'.2.2.1,.int .i64 R'.2.2.2.1,.int .i64 R'.2.2.2.2] 125)) g R (.slice A n c) (.slice AT nT cT):=Qdp hv4 _;obtain⟨i0,i1,i2,i3,i4,i5,i6⟩:=Qly hv5;have f0:=Qdg hv5 0;have f1:=Qdg hv5 1;have f2:=Qdg hv5 2;have f3:=Qdg hv5 3;have f4:=Qdg hv5 4;have f5:=Qdg hv5 5;clear h0 h1 h2 h3 h4 h5 h6))
 have hv5:Qlx (w4.alloc (.cells #[.int .u8 R'.1,.int .u32 R'.2.1,.int .u32 R'.2.2.1,.int .i64 R'.2.2.2.1,.int .i64 R'.2.2.2.2] 125)) g R (.slice A n c) (.slice AT nT cT):=Qdp hv4 _;have hb5:Below w4.heap.size w4 (w4.alloc (.cells #[.int .u8 R'.1,.int .u32 R'.2.1,.int .u32 R'.2.2.1,.int .i64 R'.2.2.2.1,.int .i64 R'.2.2.2.2] 125)):=Qci (Below.refl _ _) _;have hB5:=Qcl hB4.out hB4.out.size hb5;obtain⟨W6,hW6,hv6,hR6,hT6,hb6,hk6⟩:=bd_set5 R' hv5 (R8.kept HR.out hB5) (Kd.R_below HT.out hB5) hbg;have K6:Aside0 (Tb g w W6):=⟨fun k cs t h1 _ _ h4=>(hk6 k h4).trans (Qds h1 hB5)⟩;rw[← hW6];have hs6:w4.heap.size≤W6.heap.size:=Nat.le_trans hb5.size hb6.size;clear hW6 i0 i1 i2 i3 i4 i5 i6 f0 f1 f2 f3 f4 f5;obtain⟨m0,m1,m2,m3,m4,m5,m6⟩:=Qly hv6;have D:g<w1.heap.size:=Nat.lt_of_lt_of_le hgw hB1.out.size;have hRF5:=R8.kept (R8.kept (R8.kept hRF hb3) hb4) hb5;have hRF6:R8 W6 w1.heap.size (.slice AF nF cF) F:=Kd.R_mono (Kd.R_step (Kd.R_bound hRF5) (fun k hk _=>hk6 k (by have:=hk.2.1;omega))) (fun _ _=>trivial);have hCF6:Kd.C (Kd.int .u8) W6 AF nF F:=by
  have h:=Kd.R_reads' hRF6;rw[h.1];exact h.2.2
 have hB6:=QA ((Qis hB5 hbw).trans hb6);have hz6:b≤W6.heap.size:=Nat.le_trans hbw hB6.out.size;clear hRF5 hRF6 hRF
 go_wp2_with (first
  |(at_builtin;go_loud (refine Kd.R_append_rows (Kd.int .u8) (Rr:=fun x cs=>cs=[.int .u8 x]) (w0:=W6) b rfl (.tmp 57) (.tmp 58) 47 5 (.int .u8 0) 1 rfl Tryz.underlying47 Qid rfl (by decide) (by omega) (.slice A n c) fr F AF nF cF (fun _=>True) (fun _=>False) rfl rfl hR6 hCF6 (fun _ _ h=>h) (fun _ hk=>hk.elim) (fun _ _=>trivial) (Below.refl _ _) hz6 ?bL ?_;(case bL=>have:=hnF.out;omega);intro v7 w7 l hb7 j hat7;obtain⟨A7,n7,c7,rfl⟩:=R8.shape l;have hv7:Qlx w7 g R' (.slice A n c) (.slice AT nT cT):=Qdh hv6 j (R8.clean hR6 hv6 (by decide));obtain⟨p0,p1,p2,p3,p4,p5,p6⟩:=Qly hv7;have f5:=Qdg hv7 5;clear m0 m1 m2 m3 m4 m5 m6)))
 have K7:=QA (Tb.grown K6.out j (Kd.R_typed hR6) (.inl rfl));have hgB:w.heap.size≠g:=by omega
 have q5:=Qdp hk4 (.cells #[.int .u8 R'.1,.int .u32 R'.2.1,.int .u32 R'.2.2.1,.int .i64 R'.2.2.2.1,.int .i64 R'.2.2.2.2] 125);have q6:=(hk6 _ hgB).trans q5;have q7:=Qdh q6 j (R8.clean hR6 q6 (by decide));have hT7:=Kd.R_over' hT6 (Kd.R_typed hR6) (by decide) j;have ht:∀q,q∈177 :: (k177).E→q≠165:=by decide
 obtain⟨W8,hW8⟩:∃W8,W8=w7.setCell ⟨g,5,none⟩ (.slice A7 n7 c7):=⟨_,rfl⟩;have q8:W8.heap[w.heap.size]? = some (.cells #[.bool d,.int .u64 s,.string key,.string v] 36 (0,0)):=by rw[hW8];exact Qdd q7 hgB _
 have hv8:Qlx W8 g R' (.slice A7 n7 c7) (.slice AT nT cT):=by rw[hW8];exact Qdc hv7 5 _
 have hR8:R8 W8 b (.slice A7 n7 c7) (fr++F):=by rw[hW8];exact R8.set l hv7 (by decide) 5 _
 have hT8:Kd.R k177 177 W8 b (fun _=>True) (.slice AT nT cT) tb:=by rw[hW8];exact Kd.R_set hT7 hv7 ht 5 _
 have hB8:Aside0 (Below b w W8):=⟨by rw[hW8];exact Qir (hB6.out.trans hb7) hbg⟩;have K8:Aside0 (Tb g w W8):=⟨by rw[hW8];exact K7.out.set _⟩;rw[← hW8];clear hW8;have u:=QA hR8;have HT8:=QA hT8;clear hR8 hT8 hT7 hT6 hR6 l q5 q6 q7 hv7;obtain⟨r0,r1,r2,r3⟩:=box4 q8;obtain⟨s0,s1,s2,s3,s4,s5,s6⟩:=Qly hv8;have hz8:b≤W8.heap.size:=Nat.le_trans hbw hB8.out.size;clear p0 p1 p2 p3 p4 p5 p6;have hnn:n=fr.length:=r.out;have HNN:=QA hnn;clear hnn
 go_region_law (first
  |(go_simp;go_at_call 94;refine(Qkw key W8.drew (by omega)).mono ?_;rintro e w9 ⟨rfl,hb9⟩;have hv9:Qlx w9 g R' (.slice A7 n7 c7) (.slice AT nT cT):=Qds (w:=W8.drew) hv8 hb9;have hB9:Aside0 (Below b w w9):=⟨(hB8.out.trans (Qcj (Below.refl _ _))).trans (Qis hb9 hz8)⟩;have K9:=QA (K8.out.trans (Tb.below (w:=W8.drew) hb9));have y:=QA (R8.kept (W:=W8.drew) u.out hb9);have HT9:=QA (Kd.R_below (w:=W8.drew) HT8.out hb9);obtain⟨u0,u1,u2,u3,u4,u5,u6⟩:=Qly hv9;have a6:∀o,(w9.alloc o).cell? ⟨g,6,none⟩=some (.slice AT nT cT):=(fun o=>(Qly (Qdp hv9 o)).2.2.2.2.2.2))
  |(refine Kd.R_append_step k177 (w0:=w) b (by rfl) (.tmp 66) (.tmp 72) 163 177 (.agg #[(.int .u64 0),(.int .u32 0)]) 16 rfl Tryz.underlying163 Qlz rfl (by decide) (by omega) (.slice AT nT cT) tb (⟨Qkt 0 (bytesOf key),(n:Int)%4294967296⟩:S177) [.int .u64 (Qkt 0 (bytesOf key)),.int .u32 ((n:Int)%4294967296)] (fun _=>True) (fun _=>False) rfl ?ax ?aP (fun _ hk=>hk.elim) (fun _ _=>trivial) ?aO hB9.out ?aS ?aL ?_;(case ax=>rfl);(case aP=>exact Qin _ _ _ (⟨Qkt 0 (bytesOf key),(n:Int)%4294967296⟩:S177));(case aO=>exact HT9.out);(case aS=>exact Nat.le_trans hbw hB9.out.size);(case aL=>omega);intro z B m hb10 a hat10;obtain⟨G,I,c10,rfl⟩:∃A n c,z=.slice A n c:=(by obtain⟨A,c,e⟩:=Kd.R_slice m;exact⟨A,_,c,e⟩);have hv10:Qlx B g R' (.slice A7 n7 c7) (.slice AT nT cT):=Qdh hv9 a (Kd.R_ne HT9.out hv9 (by decide));have K10:=QA (Tb.grown K9.out a (Kd.R_typed HT9.out) (.inr rfl));have p:=QA (Kd.R_over' y.out (Kd.R_typed HT9.out) (by decide) a);obtain⟨x0,x1,x2,x3,x4,x5,x6⟩:=Qly hv10;have fx:=Qdg hv10 6;clear u0 u1 u2 u3 u4 u5 u6 a6))
 all_goals
  go_wp2;refine bodyPost_ret (results_tmp2 rfl _ _ _) rfl ?_;refine⟨by(rw[← HNN.out];rfl),⟨_,_,Qdc hv10 6 _,R8.set p.out hv10 (by decide) 6 _,?_⟩,Qir hb10 hbg,K10.out.set _⟩;rw[← HNN.out];exact Kd.R_set m hv10 ht 6 _
def h12:List Int:=[5,1,2,12,1,9,239,228,35,222,95,189,149,23,0]
theorem head12:Qbh.f 12 1 0=some (h12,0):=by kernel_rfl
theorem empty12:Qbq.f 12 1 0=some (12,1,0,15,0,0):=by kernel_rfl
theorem size12:Qaq.f 12 1=some ((4096:Nat):Int):=by kernel_rfl
def o12:List Int:=h12++List.replicate (4096-h12.length) 255
theorem o12_at:o12.length=4096∧rd o12 14=0∧rd o12 15=255∧rd o12 4095=255:=⟨by kernel_rfl,by kernel_rfl,by kernel_rfl,by kernel_rfl⟩
def Qas.f:Option Bool:=some true
theorem Qas.calls(r:Bool)(w:World)(h:Qas.f=some r) :
  Calls Tryz.prog 81 #[] w fun e w'=>e=.returned (.bool r)∧Below w.heap.size w w':=by
 obtain rfl:=Option.some.inj h;have hu:=Tryz.underlying40
 go_enter Tryz.func81,Tryz.ntmps81
 go_wp2_with (first
  |(go_at_call 45;refine(Qlm 12 1 0 15 0 h12 w empty12 head12).mono ?_;rintro e w1 ⟨g,rfl,hI1,hb1,hg1⟩)
  |(go_at_call 47;go_loud (refine(Qlp w.heap.size g (12,1,0,15,0) h12 [] 4096 w1 hI1 size12 (by decide) (by decide)).mono ?_;rintro e w2 ⟨v2,rfl,hR2,hb2⟩;obtain⟨A2,n2,c2,rfl,hn2,hlc2,hC2⟩:=R8.reads hR2;have hn2':n2=4096:=hn2.out.trans o12_at.1;subst hn2';obtain⟨ad,rfl,x14⟩:=Kd.at_int hC2 14 (by decide) (by decide);obtain⟨ad',hh,x15⟩:=Kd.at_int hC2 15 (by decide) (by decide);cases hh;obtain⟨ad',hh,x4095⟩:=Kd.at_int hC2 4095 (by decide) (by decide);cases hh;have y14:w2.cell? ⟨ad.block,ad.off+14,none⟩=some (.int .u8 0):=x14.trans (congrArg (fun z=>some (Value.int .u8 z)) o12_at.2.1);have y15:w2.cell? ⟨ad.block,ad.off+15,none⟩=some (.int .u8 255):=x15.trans (congrArg (fun z=>some (Value.int .u8 z)) o12_at.2.2.1);have y4095:w2.cell? ⟨ad.block,ad.off+4095,none⟩=some (.int .u8 255):=x4095.trans (congrArg (fun z=>some (Value.int .u8 z)) o12_at.2.2.2);clear x14 x15 x4095)))
 go_ret
 exact⟨rfl,hb1.trans (Qis hb2 hb1.size)⟩
end Go.Proofs.YtepkfjmjidjedaaGreat.C
end
