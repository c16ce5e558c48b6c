/- Merged texts. -/
import Derived.Test.YtnnofopfbeklbaaGreatML01
import Derived.Test.YtnnofopfbeklbaaGreatML07
import Derived.Test.YtnnofopfbeklbaaGreatML03
import Derived.Test.YtnnofopfbeklbaaGreatML11
import Derived.Test.YtnnofopfbeklbaaGreatML09
import Derived.Test.YtnnofopfbeklbaaGreatML06
import Derived.Test.YtnnofopfbeklbaaGreatML00
import Derived.SizedLaws
import Derived.Deep.Slices
import Derived.Lib.SmallJoins
import Derived.ChangeArms
set_option linter.unusedVariables false
set_option linter.unusedSimpArgs false
set_option maxHeartbeats 8000000
set_option maxRecDepth 100000
section
namespace Go.Proofs.YtnnofopfbeklbaaGreat.C
open Go.RowKit Go.Proofs.YtnnofopfbeklbaaGreatW.PrintWords Go.Proofs.YtnnofopfbeklbaaGreatW.PrintLast Go.Proofs.YtnnofopfbeklbaaGreatW.PrintMore
attribute [local go_sem] Qib Qic Qid Qie Qif Qig Qih Qii
noncomputable def Qas.j0:Nat→Int→List Int→Bool→Option (Bool)
 | 0,_,_,_=>none
 | k+1,x0,x1,x13=>if x13=true then((Qar.f).bind fun t894=>(some t894))else((some (([]:List Int):List Int)).bind fun y895=>(if y895.length+x1.length<140737488355328 then((some (y895++x1:List Int)).bind fun y898=>((Qcq.f k x0 y898).bind fun t901=>((Qbt.f k x0 (strOfNums x1)).bind fun t904=>((Qau.f k t901 t904).bind fun t907=>(if t907=true then((Qcp.f k t901).bind fun t908=>(if(t908.length:Int)=(t901.length:Int)then(some ((strOfNums y898).toList == (strOfNums x1).toList))else(some false)))else(some false))))))else(none)))
noncomputable def Qas.f(k:Nat)(a0:Int)(l1:List Int):Option (Bool):=(Qar.f).bind fun t893=>(if t893=true then(Qas.j0 k a0 l1 (decide ((l1.length:Int) > 3000)))else(Qas.j0 k a0 l1 true))
theorem Qas.calls(k:Nat)(a0:Int)(A1:Option Addr)(c1:Nat)(l1:List Int)(r:Bool)(w:World)(hr1:Kd.C (Kd.int .u8) w A1 l1.length l1)(hc1:l1.length≤c1)(h:Qas.f k a0 l1=some r) :
  Calls Tryz.prog 14 #[.int .i64 a0,.slice A1 l1.length c1] w fun e w'=>e=.returned (.bool r)∧Below w.heap.size w w':=by
 have v:=QA hr1;have au:=QA hc1;clear hr1 hc1;have HB:=QA (Below.refl w.heap.size w);have H:((Qar.f).bind fun K=>(if K=true then(Qas.j0 k a0 l1 (decide ((l1.length:Int) > 3000)))else(Qas.j0 k a0 l1 true)))=some r:=h;clear h;have O:=QA H;clear H
 go_enter Tryz.func14,Tryz.ntmps14
 go_upto_region 1 with(fail)
 go_cut [13] (fun am wc=>∃(kq:Nat) (u:Bool),am=.bool u∧Aside0 (Qas.j0 kq a0 l1 u=some r)∧Aside0 (kq≤k)∧Aside0 (Below w.heap.size w wc))
 case first =>
  have H:=O.out;clear O;obtain⟨K,ah,H⟩:=Option.bind_eq_some_iff.mp H;have A4:=QA ah;clear ah
  by_cases c5:K=true
  ·subst c5;rw[if_pos rfl]at H;have H':=QA H;clear H
   go_wp2_with (first |((with_reducible refine Qij (f:=47) rfl ?_);refine Qgm (some 7) rfl rfl Tryz.func47 qq_7 rfl #[] rfl qq_1 ?_;(with_reducible refine(Qar.calls  true _ A4.out).mono ?_);rintro e w6 ⟨rfl,hb⟩;refine⟨_,rfl,?_⟩;have n_:=qn1 (Qfj qq_b hb);clear HB;have HB:=n_;clear n_;(try clear hb);(try clear hb2);(try clear hk);(try clear hi)))
   go_meet
   case rel=>exact⟨_,(decide ((l1.length:Int) > 3000)),qq_4,H',⟨by first|omega|exact Nat.le_refl _⟩,⟨qq_b⟩⟩
  ·replace c5:=Bool.eq_false_iff.mpr c5;subst c5;rw[if_neg (show ¬(false=true)by decide)]at H;have H':=QA H;clear H
   go_wp2_with (first |((with_reducible refine Qij (f:=47) rfl ?_);refine Qgm (some 7) rfl rfl Tryz.func47 qq_7 rfl #[] rfl qq_1 ?_;(with_reducible refine(Qar.calls  false _ A4.out).mono ?_);rintro e w7 ⟨rfl,hb⟩;refine⟨_,rfl,?_⟩;have n_:=qn1 (Qfj qq_b hb);clear HB;have HB:=n_;clear n_;(try clear hb);(try clear hb2);(try clear hk);(try clear hi)))
   go_meet
   case rel=>exact⟨_,(true),qq_4,H',⟨by first|omega|exact Nat.le_refl _⟩,⟨qq_b⟩⟩
 case rest =>
  clear O
  try clear c1
  try clear c5
  obtain⟨kq,u,rfl,HA,HJ2,HB⟩:=hcut
  cases kq with
  | zero=>exact absurd HA.out (by simp[Qas.j0])
  | succ kj2 =>
   have H:=HA.out;clear HA;simp only[Qas.j0]at H
   by_cases c8:u=true
   ·subst c8;rw[if_pos rfl]at H;obtain⟨ak,ai,H⟩:=Option.bind_eq_some_iff.mp H;have A9:=QA ai;clear ai;obtain rfl:=Option.some.inj H
    go_wp2_with (first |((with_reducible refine Qij (f:=47) rfl ?_);refine Qgm (some 14) rfl rfl Tryz.func47 qq_7 rfl #[] rfl qq_1 ?_;(with_reducible refine(Qar.calls  ak _ A9.out).mono ?_);rintro e av ⟨rfl,hb⟩;refine⟨_,rfl,?_⟩;have n_:=qn1 (Qfj qq_b hb);clear HB;have HB:=n_;clear n_;(try clear hb);(try clear hb2);(try clear hk);(try clear hi)))
    go_ret
    exact⟨qq_2,qq_b⟩
   ·replace c8:=Bool.eq_false_iff.mpr c8;subst c8;rw[if_neg (show ¬(false=true)by decide)]at H;obtain⟨q,s⟩:∃y_:List Int,y_=(([]:List Int)):=⟨_,rfl⟩;replace H:(if q.length+l1.length<140737488355328 then((some (q++l1:List Int)).bind fun m=>((Qcq.f kj2 a0 m).bind fun a=>((Qbt.f kj2 a0 (strOfNums l1)).bind fun j=>((Qau.f kj2 a j).bind fun x=>(if x=true then((Qcp.f kj2 a).bind fun l=>(if(l.length:Int)=(a.length:Int)then(some ((strOfNums m).toList == (strOfNums l1).toList))else(some false)))else(some false))))))else(none))=some r:=by first |(rw[s];with_reducible exact H) |(have y:=(Option.bind_some _ _).symm.trans H;rw[s];with_reducible exact y) |(have y:=(Option.bind_some _ _).symm.trans H;with_reducible exact y)|with_reducible exact H |(rw[s];exact H)|exact H
    have p:=QA s;clear s
    by_cases L:q.length+l1.length<140737488355328
    ·rw[if_pos L]at H;have G:=QA L;clear L;obtain⟨m,t⟩:∃y_:List Int,y_=(q++l1):=⟨_,rfl⟩;replace H:((Qcq.f kj2 a0 m).bind fun a=>((Qbt.f kj2 a0 (strOfNums l1)).bind fun j=>((Qau.f kj2 a j).bind fun x=>(if x=true then((Qcp.f kj2 a).bind fun l=>(if(l.length:Int)=(a.length:Int)then(some ((strOfNums m).toList == (strOfNums l1).toList))else(some false)))else(some false)))))=some r:=by first |(rw[t];with_reducible exact H) |(have y:=(Option.bind_some _ _).symm.trans H;rw[t];with_reducible exact y) |(have y:=(Option.bind_some _ _).symm.trans H;with_reducible exact y)|with_reducible exact H |(rw[t];exact H)|exact H
     have I:=QA t;clear t;obtain⟨a,T,H⟩:=Option.bind_eq_some_iff.mp H;have U:=QA T;clear T;obtain⟨j,W,H⟩:=Option.bind_eq_some_iff.mp H;have X:=QA W;clear W;obtain⟨x,Y,H⟩:=Option.bind_eq_some_iff.mp H;have Z:=QA Y;clear Y
     by_cases M:x=true
     ·subst M;rw[if_pos rfl]at H;obtain⟨l,aa,H⟩:=Option.bind_eq_some_iff.mp H;have aj:=QA aa;clear aa
      by_cases o:(l.length:Int)=(a.length:Int)
      ·rw[if_pos o]at H;have ae:((l.length:Int) == (a.length:Int))=true:=beq_iff_eq.mpr o;have af:((l.length:Int) != (a.length:Int))=false:=bne_eq_false_iff_eq.mpr o;have ag:(l.length == a.length)=true:=by first|simpa using o |(simp at o ⊢;omega)
       clear o;obtain rfl:=Option.some.inj H
       go_wp2_with (first |((with_reducible refine Qft (N:=15) rfl ?_);(try(refine Qia (by rfl) ?_;dsimp only));refine Kd.R_lit (Kd.int .u8) _ 5 ?hg (N:=15) ?hd (xs:=([]:List Int)) (inner:=[]) (ok:=fun _=>True) (okp:=fun _=>True) ?hr ?hp (fun _ hk=>hk) trivial (Below.refl _ _) (Nat.le_refl _) (by simp) ?_;(case hd=>rfl);(case hg=>rfl);(case hr=>exact qq_18);(case hp=>exact(Reps.none _ _));intro z aw B hb hg_ hnew_;clear hg_ hnew_;(first|rw[← p.out]at B |(simp only[Int.reduceToNat]at B;rw[← p.out]at B));have n_:=qn2 (Kd.R_lower B (Qfi qq_b)) (Qfj qq_b hb);clear HB;obtain⟨n,HB⟩:=n_;clear hb B) |((with_reducible refine Qik (b:=.append) (xs:=#[.tmp 15,.tmp 16]) rfl ?_);(try(refine Qia (by rfl) ?_;dsimp only));at_builtin;refine Kd.R_append_rows (Kd.int .u8) (w0:=w) w.heap.size rfl (.tmp 15) (.tmp 16) 52 5 (.int .u8 0) 1 rfl Tryz.underlying52 Qiq rfl (by decide) (by omega) z q l1 _ _ _ (fun _=>True) (fun _=>False) rfl rfl ?aO ?aR (fun _ _ h=>h) (fun _ h=>h.elim) ?aF ?aB ?aS ?aL ?_;(case aR=>repeat(first|exact(Kd.C_below v.out HB.out) |(with_reducible refine Kd.C_alloc ?_ _) |(with_reducible refine Kd.C_drewN ?_ _) |(with_reducible refine Kd.C_drew ?_)));(case aB=>exact qq_b);(case aF=>exact(fun _ _=>trivial));(case aO=>exact(by(with_reducible repeat(first|apply Kd.R_alloc|apply Kd.R_drewN|apply Kd.R_drew));exact n.out));(case aS=>exact(Qfi qq_b));(case aL=>have:=G.out;omega);intro ab ax ho hb hg hat;rw[← I.out]at ho;have n_:=qn2 (hb) (ho);clear HB n;obtain⟨HB,HO900⟩:=n_;clear ho hb hg hat;obtain⟨Ao21,co21,eo21⟩:=Kd.R_slice HO900.out;subst eo21) |((with_reducible refine Qij (f:=48) rfl ?_);refine Qgm (some 20) rfl rfl Tryz.func48 qq_7 rfl #[.int .i64 a0,.slice Ao21 m.length co21] rfl qq_1 ?_;(with_reducible refine(Qcq.calls kj2 a0 _ _ m a _ ?side1 ?side2 U.out).mono ?_);(case side1=>repeat(first|exact(Kd.R_reads' HO900.out).2.2 |(with_reducible refine Kd.C_alloc ?_ _) |(with_reducible refine Kd.C_drewN ?_ _) |(with_reducible refine Kd.C_drew ?_)));(case side2=>exact(Kd.R_reads' HO900.out).2.1);rintro e ay ⟨ac,rfl,g,hb⟩;refine⟨_,rfl,?_⟩;have n_:=qn3 (Kd.R_below qq_10 hb) (Kd.R_lower g (Qfi qq_b)) (Qfj qq_b hb);clear HO900 HB;obtain⟨HO900,HO903,HB⟩:=n_;(try clear hb);(try clear hb2);(try clear hk);(try clear hi);(try clear g);have an:=Kd.C_string (P:=Tryz.prog) (A:=A1) (c:=c1) Tryz.underlying52 Tryz.underlying5 Tryz.underlying9 (Kd.C_below v.out HB.out)) |((with_reducible refine Qij (f:=50) rfl ?_);refine Qgm (some 25) rfl rfl Tryz.func50 qq_7 rfl #[.int .i64 a0,.string (strOfNums l1)] rfl qq_1 ?_;(with_reducible refine(Qbt.calls kj2 a0 (strOfNums l1) j _ X.out).mono ?_);rintro e az ⟨ad,rfl,g,hb⟩;refine⟨_,rfl,?_⟩;have n_:=qn4 (Kd.R_below qq_10 hb) (Kd.R_below qq_19 hb) (Kd.R_lower g (Qfi qq_b)) (Qfj qq_b hb);clear HO900 HO903 HB;obtain⟨HO900,HO903,d,HB⟩:=n_;(try clear hb);(try clear hb2);(try clear hk);(try clear hi);(try clear g);obtain⟨Ao25,co25,eo25⟩:=Kd.R_slice HO903.out;subst eo25;obtain⟨Ao26,co26,eo26⟩:=Kd.R_slice d.out;subst eo26) |((with_reducible refine Qij (f:=49) rfl ?_);refine Qgm (some 26) rfl rfl Tryz.func49 qq_7 rfl #[.slice Ao25 a.length co25,.slice Ao26 j.length co26] rfl qq_1 ?_;(with_reducible refine(Qau.calls kj2 _ _ a _ _ j true _ ?side1 ?side2 ?side3 ?side4 Z.out).mono ?_);(case side1=>repeat(first|exact(Kd.R_reads' HO903.out).2.2 |(with_reducible refine Kd.C_alloc ?_ _) |(with_reducible refine Kd.C_drewN ?_ _) |(with_reducible refine Kd.C_drew ?_)));(case side2=>exact(Kd.R_reads' HO903.out).2.1);(case side3=>repeat(first|exact(Kd.R_reads' d.out).2.2 |(with_reducible refine Kd.C_alloc ?_ _) |(with_reducible refine Kd.C_drewN ?_ _) |(with_reducible refine Kd.C_drew ?_)));(case side4=>exact(Kd.R_reads' d.out).2.1);rintro e w' ⟨rfl,⟨nd,rfl⟩⟩;refine⟨_,rfl,?_⟩) |(go_at_call 51;(with_reducible refine(Qcp.calls kj2 _ _ a l _ ?side1 ?side2 aj.out).mono ?_);(case side1=>repeat(first|exact(Kd.R_reads' HO903.out).2.2 |(with_reducible refine Kd.C_alloc ?_ _) |(with_reducible refine Kd.C_drewN ?_ _) |(with_reducible refine Kd.C_drew ?_)));(case side2=>exact(Kd.R_reads' HO903.out).2.1);rintro e aA ⟨al,rfl,g,hb⟩;have n_:=qn5 (Kd.R_below qq_10 hb) (Kd.R_below qq_19 hb) (Kd.R_below (by(with_reducible repeat(first|apply Kd.R_alloc|apply Kd.R_drewN|apply Kd.R_drew));exact d.out) hb) (Kd.R_lower g (Qfi qq_b)) (Qfj qq_b hb);clear HO900 HO903 d HB;obtain⟨HO900,HO903,d,J,HB⟩:=n_;(try clear hb);(try clear hb2);(try clear hk);(try clear hi);(try clear g);obtain⟨Ao28,co28,eo28⟩:=Kd.R_slice J.out;subst eo28;have ao:=Qdg (P:=Tryz.prog) Tryz.underlying52 Tryz.underlying5 Tryz.underlying9 (Kd.own_of_R HO900.out);have ap:=Kd.C_string (P:=Tryz.prog) (A:=A1) (c:=c1) Tryz.underlying52 Tryz.underlying5 Tryz.underlying9 (Kd.C_below v.out HB.out)))
       go_ret
       exact⟨qq_2,qq_b⟩
      ·rw[if_neg o]at H;have ae:((l.length:Int) == (a.length:Int))=false:=beq_eq_false_iff_ne.mpr o;have af:((l.length:Int) != (a.length:Int))=true:=bne_iff_ne.mpr o;have ag:(l.length == a.length)=false:=by first|simpa using o |(simp at o ⊢;omega)
       obtain rfl:=Option.some.inj H
       go_wp2_with (first |((with_reducible refine Qft (N:=15) rfl ?_);(try(refine Qia (by rfl) ?_;dsimp only));refine Kd.R_lit (Kd.int .u8) _ 5 ?hg (N:=15) ?hd (xs:=([]:List Int)) (inner:=[]) (ok:=fun _=>True) (okp:=fun _=>True) ?hr ?hp (fun _ hk=>hk) trivial (Below.refl _ _) (Nat.le_refl _) (by simp) ?_;(case hd=>rfl);(case hg=>rfl);(case hr=>exact qq_18);(case hp=>exact(Reps.none _ _));intro z aC D hb hg_ hnew_;clear hg_ hnew_;(first|rw[← p.out]at D |(simp only[Int.reduceToNat]at D;rw[← p.out]at D));have n_:=qn2 (Kd.R_lower D (Qfi qq_b)) (Qfj qq_b hb);clear HB;obtain⟨n,HB⟩:=n_;clear hb D) |((with_reducible refine Qik (b:=.append) (xs:=#[.tmp 15,.tmp 16]) rfl ?_);(try(refine Qia (by rfl) ?_;dsimp only));at_builtin;refine Kd.R_append_rows (Kd.int .u8) (w0:=w) w.heap.size rfl (.tmp 15) (.tmp 16) 52 5 (.int .u8 0) 1 rfl Tryz.underlying52 Qiq rfl (by decide) (by omega) z q l1 _ _ _ (fun _=>True) (fun _=>False) rfl rfl ?aO ?aR (fun _ _ h=>h) (fun _ h=>h.elim) ?aF ?aB ?aS ?aL ?_;(case aR=>repeat(first|exact(Kd.C_below v.out HB.out) |(with_reducible refine Kd.C_alloc ?_ _) |(with_reducible refine Kd.C_drewN ?_ _) |(with_reducible refine Kd.C_drew ?_)));(case aB=>exact qq_b);(case aF=>exact(fun _ _=>trivial));(case aO=>exact(by(with_reducible repeat(first|apply Kd.R_alloc|apply Kd.R_drewN|apply Kd.R_drew));exact n.out));(case aS=>exact(Qfi qq_b));(case aL=>have:=G.out;omega);intro ab aD ho hb hg hat;rw[← I.out]at ho;have n_:=qn2 (hb) (ho);clear HB n;obtain⟨HB,HO900⟩:=n_;clear ho hb hg hat;obtain⟨Ao34,co34,eo34⟩:=Kd.R_slice HO900.out;subst eo34) |((with_reducible refine Qij (f:=48) rfl ?_);refine Qgm (some 20) rfl rfl Tryz.func48 qq_7 rfl #[.int .i64 a0,.slice Ao34 m.length co34] rfl qq_1 ?_;(with_reducible refine(Qcq.calls kj2 a0 _ _ m a _ ?side1 ?side2 U.out).mono ?_);(case side1=>repeat(first|exact(Kd.R_reads' HO900.out).2.2 |(with_reducible refine Kd.C_alloc ?_ _) |(with_reducible refine Kd.C_drewN ?_ _) |(with_reducible refine Kd.C_drew ?_)));(case side2=>exact(Kd.R_reads' HO900.out).2.1);rintro e aE ⟨ac,rfl,g,hb⟩;refine⟨_,rfl,?_⟩;have n_:=qn3 (Kd.R_below qq_10 hb) (Kd.R_lower g (Qfi qq_b)) (Qfj qq_b hb);clear HO900 HB;obtain⟨HO900,HO903,HB⟩:=n_;(try clear hb);(try clear hb2);(try clear hk);(try clear hi);(try clear g);have aq:=Kd.C_string (P:=Tryz.prog) (A:=A1) (c:=c1) Tryz.underlying52 Tryz.underlying5 Tryz.underlying9 (Kd.C_below v.out HB.out)) |((with_reducible refine Qij (f:=50) rfl ?_);refine Qgm (some 25) rfl rfl Tryz.func50 qq_7 rfl #[.int .i64 a0,.string (strOfNums l1)] rfl qq_1 ?_;(with_reducible refine(Qbt.calls kj2 a0 (strOfNums l1) j _ X.out).mono ?_);rintro e aG ⟨ad,rfl,g,hb⟩;refine⟨_,rfl,?_⟩;have n_:=qn4 (Kd.R_below qq_10 hb) (Kd.R_below qq_19 hb) (Kd.R_lower g (Qfi qq_b)) (Qfj qq_b hb);clear HO900 HO903 HB;obtain⟨HO900,HO903,d,HB⟩:=n_;(try clear hb);(try clear hb2);(try clear hk);(try clear hi);(try clear g);obtain⟨Ao38,co38,eo38⟩:=Kd.R_slice HO903.out;subst eo38;obtain⟨Ao39,co39,eo39⟩:=Kd.R_slice d.out;subst eo39) |((with_reducible refine Qij (f:=49) rfl ?_);refine Qgm (some 26) rfl rfl Tryz.func49 qq_7 rfl #[.slice Ao38 a.length co38,.slice Ao39 j.length co39] rfl qq_1 ?_;(with_reducible refine(Qau.calls kj2 _ _ a _ _ j true _ ?side1 ?side2 ?side3 ?side4 Z.out).mono ?_);(case side1=>repeat(first|exact(Kd.R_reads' HO903.out).2.2 |(with_reducible refine Kd.C_alloc ?_ _) |(with_reducible refine Kd.C_drewN ?_ _) |(with_reducible refine Kd.C_drew ?_)));(case side2=>exact(Kd.R_reads' HO903.out).2.1);(case side3=>repeat(first|exact(Kd.R_reads' d.out).2.2 |(with_reducible refine Kd.C_alloc ?_ _) |(with_reducible refine Kd.C_drewN ?_ _) |(with_reducible refine Kd.C_drew ?_)));(case side4=>exact(Kd.R_reads' d.out).2.1);rintro e w' ⟨rfl,⟨nd,rfl⟩⟩;refine⟨_,rfl,?_⟩) |(go_at_call 51;(with_reducible refine(Qcp.calls kj2 _ _ a l _ ?side1 ?side2 aj.out).mono ?_);(case side1=>repeat(first|exact(Kd.R_reads' HO903.out).2.2 |(with_reducible refine Kd.C_alloc ?_ _) |(with_reducible refine Kd.C_drewN ?_ _) |(with_reducible refine Kd.C_drew ?_)));(case side2=>exact(Kd.R_reads' HO903.out).2.1);rintro e aH ⟨al,rfl,g,hb⟩;have n_:=qn5 (Kd.R_below qq_10 hb) (Kd.R_below qq_19 hb) (Kd.R_below (by(with_reducible repeat(first|apply Kd.R_alloc|apply Kd.R_drewN|apply Kd.R_drew));exact d.out) hb) (Kd.R_lower g (Qfi qq_b)) (Qfj qq_b hb);clear HO900 HO903 d HB;obtain⟨HO900,HO903,d,J,HB⟩:=n_;(try clear hb);(try clear hb2);(try clear hk);(try clear hi);(try clear g);obtain⟨Ao41,co41,eo41⟩:=Kd.R_slice J.out;subst eo41))
       go_ret
       exact⟨qq_2,qq_b⟩
     ·replace M:=Bool.eq_false_iff.mpr M;subst M;rw[if_neg (show ¬(false=true)by decide)]at H;obtain rfl:=Option.some.inj H
      go_wp2_with (first |((with_reducible refine Qft (N:=15) rfl ?_);(try(refine Qia (by rfl) ?_;dsimp only));refine Kd.R_lit (Kd.int .u8) _ 5 ?hg (N:=15) ?hd (xs:=([]:List Int)) (inner:=[]) (ok:=fun _=>True) (okp:=fun _=>True) ?hr ?hp (fun _ hk=>hk) trivial (Below.refl _ _) (Nat.le_refl _) (by simp) ?_;(case hd=>rfl);(case hg=>rfl);(case hr=>exact qq_18);(case hp=>exact(Reps.none _ _));intro z aI E hb hg_ hnew_;clear hg_ hnew_;(first|rw[← p.out]at E |(simp only[Int.reduceToNat]at E;rw[← p.out]at E));have n_:=qn2 (Kd.R_lower E (Qfi qq_b)) (Qfj qq_b hb);clear HB;obtain⟨n,HB⟩:=n_;clear hb E) |((with_reducible refine Qik (b:=.append) (xs:=#[.tmp 15,.tmp 16]) rfl ?_);(try(refine Qia (by rfl) ?_;dsimp only));at_builtin;refine Kd.R_append_rows (Kd.int .u8) (w0:=w) w.heap.size rfl (.tmp 15) (.tmp 16) 52 5 (.int .u8 0) 1 rfl Tryz.underlying52 Qiq rfl (by decide) (by omega) z q l1 _ _ _ (fun _=>True) (fun _=>False) rfl rfl ?aO ?aR (fun _ _ h=>h) (fun _ h=>h.elim) ?aF ?aB ?aS ?aL ?_;(case aR=>repeat(first|exact(Kd.C_below v.out HB.out) |(with_reducible refine Kd.C_alloc ?_ _) |(with_reducible refine Kd.C_drewN ?_ _) |(with_reducible refine Kd.C_drew ?_)));(case aB=>exact qq_b);(case aF=>exact(fun _ _=>trivial));(case aO=>exact(by(with_reducible repeat(first|apply Kd.R_alloc|apply Kd.R_drewN|apply Kd.R_drew));exact n.out));(case aS=>exact(Qfi qq_b));(case aL=>have:=G.out;omega);intro ab aJ ho hb hg hat;rw[← I.out]at ho;have n_:=qn2 (hb) (ho);clear HB n;obtain⟨HB,HO900⟩:=n_;clear ho hb hg hat;obtain⟨Ao45,co45,eo45⟩:=Kd.R_slice HO900.out;subst eo45) |((with_reducible refine Qij (f:=48) rfl ?_);refine Qgm (some 20) rfl rfl Tryz.func48 qq_7 rfl #[.int .i64 a0,.slice Ao45 m.length co45] rfl qq_1 ?_;(with_reducible refine(Qcq.calls kj2 a0 _ _ m a _ ?side1 ?side2 U.out).mono ?_);(case side1=>repeat(first|exact(Kd.R_reads' HO900.out).2.2 |(with_reducible refine Kd.C_alloc ?_ _) |(with_reducible refine Kd.C_drewN ?_ _) |(with_reducible refine Kd.C_drew ?_)));(case side2=>exact(Kd.R_reads' HO900.out).2.1);rintro e aK ⟨ac,rfl,g,hb⟩;refine⟨_,rfl,?_⟩;have n_:=qn3 (Kd.R_below qq_10 hb) (Kd.R_lower g (Qfi qq_b)) (Qfj qq_b hb);clear HO900 HB;obtain⟨HO900,HO903,HB⟩:=n_;(try clear hb);(try clear hb2);(try clear hk);(try clear hi);(try clear g);have ar:=Kd.C_string (P:=Tryz.prog) (A:=A1) (c:=c1) Tryz.underlying52 Tryz.underlying5 Tryz.underlying9 (Kd.C_below v.out HB.out)) |((with_reducible refine Qij (f:=50) rfl ?_);refine Qgm (some 25) rfl rfl Tryz.func50 qq_7 rfl #[.int .i64 a0,.string (strOfNums l1)] rfl qq_1 ?_;(with_reducible refine(Qbt.calls kj2 a0 (strOfNums l1) j _ X.out).mono ?_);rintro e aM ⟨ad,rfl,g,hb⟩;refine⟨_,rfl,?_⟩;have n_:=qn4 (Kd.R_below qq_10 hb) (Kd.R_below qq_19 hb) (Kd.R_lower g (Qfi qq_b)) (Qfj qq_b hb);clear HO900 HO903 HB;obtain⟨HO900,HO903,d,HB⟩:=n_;(try clear hb);(try clear hb2);(try clear hk);(try clear hi);(try clear g);obtain⟨Ao49,co49,eo49⟩:=Kd.R_slice HO903.out;subst eo49;obtain⟨Ao50,co50,eo50⟩:=Kd.R_slice d.out;subst eo50) |((with_reducible refine Qij (f:=49) rfl ?_);refine Qgm (some 26) rfl rfl Tryz.func49 qq_7 rfl #[.slice Ao49 a.length co49,.slice Ao50 j.length co50] rfl qq_1 ?_;(with_reducible refine(Qau.calls kj2 _ _ a _ _ j false _ ?side1 ?side2 ?side3 ?side4 Z.out).mono ?_);(case side1=>repeat(first|exact(Kd.R_reads' HO903.out).2.2 |(with_reducible refine Kd.C_alloc ?_ _) |(with_reducible refine Kd.C_drewN ?_ _) |(with_reducible refine Kd.C_drew ?_)));(case side2=>exact(Kd.R_reads' HO903.out).2.1);(case side3=>repeat(first|exact(Kd.R_reads' d.out).2.2 |(with_reducible refine Kd.C_alloc ?_ _) |(with_reducible refine Kd.C_drewN ?_ _) |(with_reducible refine Kd.C_drew ?_)));(case side4=>exact(Kd.R_reads' d.out).2.1);rintro e w' ⟨rfl,⟨nd,rfl⟩⟩;refine⟨_,rfl,?_⟩))
      go_ret
      exact⟨qq_2,qq_b⟩
    ·rw[if_neg L]at H;exact absurd H (by simp)
mutual
noncomputable def Qat.j0:Nat→Int→List Int→Bool→Option (Bool)
 | 0,_,_,_=>none
 | k+1,x0,x1,x22=>if x22=true then((Qar.f).bind fun t912=>(some t912))else(Qat.l0 k x0 x1 (mx 1 x0) 0 0 0 x1 (x1.length:Int) 0)
noncomputable def Qat.l0:Nat→Int→List Int→Int→Int→Int→Int→List Int→Int→Int→Option (Bool)
 | 0,_,_,_,_,_,_,_,_,_=>none
 | k+1,x0,x1,x5,x6,x7,x8,x26,x27,x28=>if x28<x27 then(if 0≤x28 then(if x28<(x26.length:Int)then(if(rd x26 x28)=0 then(Qat.l0 k x0 x1 x5 (wrap64 (x6+1)) x7 x8 x26 x27 (wrap64 (x28+1)))else(Qat.l0 k x0 x1 x5 x6 x7 x8 x26 x27 (wrap64 (x28+1))))else(none))else(none))else((Qcq.f k x0 x1).bind fun t914=>(Qat.l1 k x1 x5 x6 x7 x8 t914 t914 (t914.length:Int) 0))
noncomputable def Qat.l1:Nat→List Int→Int→Int→Int→Int→List (S97)→List (S97)→Int→Int→Option (Bool)
 | 0,_,_,_,_,_,_,_,_,_=>none
 | k+1,x1,x5,x6,x7,x8,x11,x40,x41,x42=>if x42<x41 then(if 0≤x42 then(if x42<(x40.length:Int)then((Qbq.f k ((Qjc x40 x42).f0.f0) ((Qjc x40 x42).f0.f1) ((Qjc x40 x42).f0.f2) ((Qjc x40 x42).f0.f3)).bind fun t919=>(if(wrap64 ((wrap64 ((wrap64 ((Qjc x40 x42).f1))*x5))+((Qjc x40 x42).f2)))<x8 then(some false)else(if(wrap64 (((Qjc x40 x42).f2)+((Qjc x40 x42).f3))) > x5 then(some false)else(if(t919.size:Int)=((Qjc x40 x42).f3)then(if(wrap64 ((wrap64 ((wrap64 ((wrap64 ((Qjc x40 x42).f1))*x5))+((Qjc x40 x42).f2)))+(t919.size:Int))) > (x1.length:Int)then(some false)else(if 0≤(wrap64 ((wrap64 ((wrap64 ((Qjc x40 x42).f1))*x5))+((Qjc x40 x42).f2)))then(if(wrap64 ((wrap64 ((wrap64 ((Qjc x40 x42).f1))*x5))+((Qjc x40 x42).f2)))≤(wrap64 ((wrap64 ((wrap64 ((wrap64 ((Qjc x40 x42).f1))*x5))+((Qjc x40 x42).f2)))+(t919.size:Int)))then(if(wrap64 ((wrap64 ((wrap64 ((wrap64 ((Qjc x40 x42).f1))*x5))+((Qjc x40 x42).f2)))+(t919.size:Int)))≤(x1.length:Int)then(if(strOfNums ((x1.take ((wrap64 ((wrap64 ((wrap64 ((wrap64 ((Qjc x40 x42).f1))*x5))+((Qjc x40 x42).f2)))+(t919.size:Int))):Int).toNat).drop ((wrap64 ((wrap64 ((wrap64 ((Qjc x40 x42).f1))*x5))+((Qjc x40 x42).f2))):Int).toNat)).toList=t919.toList then(Qat.l1 k x1 x5 x6 (wrap64 (x7+((Qjc x40 x42).f3))) (wrap64 ((wrap64 ((wrap64 ((wrap64 ((Qjc x40 x42).f1))*x5))+((Qjc x40 x42).f2)))+((Qjc x40 x42).f3))) x11 x40 x41 (wrap64 (x42+1)))else(some false))else(none))else(none))else(none)))else(some false)))))else(none))else(none))else(if(x11.length:Int)≤x6 then(some (decide (x7≤(x1.length:Int))))else(some false))
end
noncomputable def Qat.f(k:Nat)(a0:Int)(l1:List Int):Option (Bool):=(Qar.f).bind fun t911=>(if t911=true then(Qat.j0 k a0 l1 (decide ((l1.length:Int) > 3000)))else(Qat.j0 k a0 l1 true))
theorem Qat.calls (k:Nat) (a0:Int) (A1:Option Addr) (c1:Nat) (l1:List Int) (r:Bool) (w:World) (hr1:Kd.C (Kd.int .u8) w A1 l1.length l1) (hc1:l1.length≤c1) (h:Qat.f k a0 l1=some r) :
  Calls Tryz.prog 13 #[.int .i64 a0,.slice A1 l1.length c1] w fun e w'=>e=.returned (.bool r)∧Below w.heap.size w w':=by
 have hu97:=Tryz.underlying97;have hu39:=Tryz.underlying39;have ai:=QA hr1;have aB:=QA hc1;clear hr1 hc1;have HB:=QA (Below.refl w.heap.size w);have H:((Qar.f).bind fun am=>(if am=true then(Qat.j0 k a0 l1 (decide ((l1.length:Int) > 3000)))else(Qat.j0 k a0 l1 true)))=some r:=h;clear h;have aC:=QA H;clear H
 go_enter Tryz.func13,Tryz.ntmps13
 go_upto_region 1 with(fail)
 go_cut [22] (fun cu wc=>∃(kq:Nat) (T:Bool),cu=.bool T∧Aside0 (Qat.j0 kq a0 l1 T=some r)∧Aside0 (kq≤k)∧Aside0 (Below w.heap.size w wc))
 case first =>
  have H:=aC.out;clear aC;obtain⟨am,aQ,H⟩:=Option.bind_eq_some_iff.mp H;have A4:=QA aQ;clear aQ
  by_cases c5:am=true
  ·subst c5;rw[if_pos rfl]at H;have H':=QA H;clear H
   go_wp2_with (first |((with_reducible refine Qij (f:=47) rfl ?_);refine Qgm (some 16) rfl rfl Tryz.func47 qq_7 rfl #[] rfl qq_1 ?_;(with_reducible refine(Qar.calls  true _ A4.out).mono ?_);rintro e w6 ⟨rfl,hb⟩;refine⟨_,rfl,?_⟩;have n_:=qn1 (Qfj qq_b hb);clear HB;have HB:=n_;clear n_;(try clear hb);(try clear hb2);(try clear hk);(try clear hi)))
   go_meet
   case rel=>exact⟨_,(decide ((l1.length:Int) > 3000)),qq_4,H',⟨by first|omega|exact Nat.le_refl _⟩,⟨qq_b⟩⟩
  ·replace c5:=Bool.eq_false_iff.mpr c5;subst c5;rw[if_neg (show ¬(false=true)by decide)]at H;have H':=QA H;clear H
   go_wp2_with (first |((with_reducible refine Qij (f:=47) rfl ?_);refine Qgm (some 16) rfl rfl Tryz.func47 qq_7 rfl #[] rfl qq_1 ?_;(with_reducible refine(Qar.calls  false _ A4.out).mono ?_);rintro e w7 ⟨rfl,hb⟩;refine⟨_,rfl,?_⟩;have n_:=qn1 (Qfj qq_b hb);clear HB;have HB:=n_;clear n_;(try clear hb);(try clear hb2);(try clear hk);(try clear hi)))
   go_meet
   case rel=>exact⟨_,(true),qq_4,H',⟨by first|omega|exact Nat.le_refl _⟩,⟨qq_b⟩⟩
 case rest =>
  clear aC
  try clear c1
  try clear c5
  obtain⟨kq,T,rfl,HA,HJ2,HB⟩:=hcut
  cases kq with
  | zero=>exact absurd HA.out (by simp[Qat.j0])
  | succ kj2 =>
   have H:=HA.out;clear HA;simp only[Qat.j0]at H
   by_cases c8:T=true
   ·subst c8;rw[if_pos rfl]at H;obtain⟨aT,aR,H⟩:=Option.bind_eq_some_iff.mp H;have A9:=QA aR;clear aR;obtain rfl:=Option.some.inj H
    go_wp2_with (first |((with_reducible refine Qij (f:=47) rfl ?_);refine Qgm (some 23) rfl rfl Tryz.func47 qq_7 rfl #[] rfl qq_1 ?_;(with_reducible refine(Qar.calls  aT _ A9.out).mono ?_);rintro e db ⟨rfl,hb⟩;refine⟨_,rfl,?_⟩;have n_:=qn1 (Qfj qq_b hb);clear HB;have HB:=n_;clear n_;(try clear hb);(try clear hb2);(try clear hk);(try clear hi)))
    go_ret
    exact⟨qq_2,qq_b⟩
   ·replace c8 := Bool.eq_false_iff.mpr c8;subst c8;rw[if_neg (show ¬(false=true)by decide)]at H;obtain⟨n,p⟩:∃j_:Int,(mx 1 a0)=j_:=⟨_,rfl⟩;replace H:(Qat.l0 kj2 a0 l1 n 0 0 0 l1 (l1.length:Int) 0)=some r:=by first |(rw[p]at H;exact H) |(simp only[p]at H ⊢;exact H)
    (try(have cv:1≤n:=by(rw[← p];unfold mx;(repeat' split)<;>omega)))
    (try(have cw:0≤n:=by omega))
    have cx:(if 1<a0 then a0 else 1)=n:=p;have H':=QA H;clear H;go_wp2
    go_loopg [6,28] kj2 (fun kq v6 cy w'=>∃(G:Int) (j:Int),v6=.int .i64 G∧cy=.int .i64 j∧Aside0 (Qat.l0 kq a0 l1 n G 0 0 l1 (l1.length:Int) j=some r)∧Aside0 (kq≤kj2)∧Aside0 (Below w.heap.size w w'))
    case atStart=>exact⟨(0),(0),qq_4,qq_4,H',⟨Nat.le_refl _⟩,⟨qq_b⟩⟩
    case round =>
     clear H'
     try clear c1
     try clear c5
     try clear c8
     obtain⟨G,j,rfl,rfl,HA,HK2,HB⟩:=hrel
     cases gk with
     | zero=>exact absurd HA.out (by simp[Qat.l0])
     | succ k2 =>
      have H:=HA.out;clear HA;simp only[Qat.l0]at H
      by_cases U:j<(l1.length:Int)
      ·rw [if_pos U]at H;have ao:=decide_eq_true U;clear U
       by_cases aj:0≤j
       ·rw[if_pos aj]at H;have aF:=decide_eq_true aj;clear aj
        by_cases ak:j<(l1.length:Int)
        ·rw[if_pos ak]at H;have aG:=decide_eq_true ak;clear ak
         by_cases O:(rd l1 j)=0
         ·rw[if_pos O]at H;have ap:((rd l1 j) == 0)=true:=beq_iff_eq.mpr O;have aq:((rd l1 j) != 0)=false:=bne_eq_false_iff_eq.mpr O;clear O;have H':=QA H;clear H;have I:0≤(j:Int):=of_decide_eq_true qq_3;have J:j<(l1.length:Int):=of_decide_eq_true qq_3;obtain⟨aH,an,q⟩:=Kd.at_int ai.out j I J
          cases an
          replace q:=qq_h HB.out q;replace I:=eq_true I;replace J:=eq_true J;go_wp2
          go_roundg k2
          case measure=>have:=HJ2.out;have:=HK2.out;omega
          case rel=>exact⟨(wrap64 (G+1)),(wrap64 (j+1)),qq_4,qq_4,H',⟨by have:=HJ2.out;have:=HK2.out;omega⟩,⟨qq_b⟩⟩
         ·rw[if_neg O]at H;have ap:((rd l1 j) == 0)=false:=beq_eq_false_iff_ne.mpr O;have aq:((rd l1 j) != 0)=true:=bne_iff_ne.mpr O;have H':=QA H;clear H;have I:0≤(j:Int):=of_decide_eq_true qq_3;have J:j<(l1.length:Int):=of_decide_eq_true qq_3;obtain⟨aH,an,q⟩:=Kd.at_int ai.out j I J
          cases an
          replace q:=qq_h HB.out q;replace I:=eq_true I;replace J:=eq_true J;go_wp2
          go_roundg k2
          case measure=>have:=HJ2.out;have:=HK2.out;omega
          case rel=>exact⟨(G),(wrap64 (j+1)),qq_4,qq_4,H',⟨by have:=HJ2.out;have:=HK2.out;omega⟩,⟨qq_b⟩⟩
        ·rw[if_neg ak]at H;exact absurd H (by simp)
       ·rw[if_neg aj]at H;exact absurd H (by simp)
      ·rw [if_neg U]at H;have ao:=decide_eq_false U;clear U;obtain⟨t914,aD,H⟩:=Option.bind_eq_some_iff.mp H;have cz:=QA aD;clear aD;have H':=QA H;clear H
       go_wp2_with (first |((with_reducible refine Qij (f:=48) rfl ?_);refine Qgm (some 39) rfl rfl Tryz.func48 qq_7 rfl #[.int .i64 a0,.slice A1 l1.length c1] rfl qq_1 ?_;(with_reducible refine(Qcq.calls k2 a0 _ _ l1 t914 _ ?side1 ?side2 cz.out).mono ?_);(case side1=>repeat(first|exact(Kd.C_below ai.out HB.out) |(with_reducible refine Kd.C_alloc ?_ _) |(with_reducible refine Kd.C_drewN ?_ _) |(with_reducible refine Kd.C_drew ?_)));(case side2=>exact aB.out);rintro e dc ⟨cY,rfl,aS,hb⟩;refine⟨_,rfl,?_⟩;have n_:=qn2 (Kd.R_lower aS (Qfi qq_b)) (Qfj qq_b hb);clear HB;obtain⟨af,HB⟩:=n_;(try clear hb);(try clear hb2);(try clear hk);(try clear hi);(try clear aS);obtain⟨Ao18,co18,eo18⟩:=Kd.R_slice af.out;subst eo18))
       go_loopg [7,8,42] k2 (fun kq v7 v8 cA w'=>∃(W:Int) (ag:Int) (x42_3:Int),v7=.int .i64 W∧v8=.int .i64 ag∧cA=.int .i64 x42_3∧Aside0 (Qat.l1 kq l1 n G W ag t914 t914 (t914.length:Int) x42_3=some r)∧Aside0 (kq≤k2)∧Aside0 (Kd.R k97 97 w' w.heap.size (fun _=>True) (.slice Ao18 t914.length co18) t914)∧Aside0 (Kd.R k97 97 w' w.heap.size (fun _=>True) (.slice Ao18 t914.length co18) t914)∧Aside0 (Below w.heap.size w w'))
       case atStart=>exact⟨(0),(0),(0),qq_4,qq_4,qq_4,H',⟨Nat.le_refl _⟩,⟨by(with_reducible repeat(first|apply Kd.R_alloc|apply Kd.R_drewN|apply Kd.R_drew));exact af.out⟩,⟨by(with_reducible repeat(first|apply Kd.R_alloc|apply Kd.R_drewN|apply Kd.R_drew));exact af.out⟩,⟨qq_b⟩⟩
       case round =>
        clear H'
        try clear c1
        try clear c5
        try clear c8
        try clear U
        try clear ao
        try clear aj
        try clear aF
        try clear ak
        try clear aG
        try clear O
        try clear ap
        try clear aq
        try clear q
        try clear I
        try clear J
        obtain⟨W,ag,x42_3,rfl,rfl,rfl,HA,HK3,HO_11,HO_40,HB⟩:=hrel
        cases gk with
        | zero=>exact absurd HA.out (by simp[Qat.l1])
        | succ k3 =>
         have H:=HA.out;clear HA;simp only[Qat.l1]at H
         by_cases aa:x42_3<(t914.length:Int)
         ·rw [if_pos aa]at H;have aI:=decide_eq_true aa;clear aa
          by_cases ar:0≤x42_3
          ·rw [if_pos ar]at H;have cE:=decide_eq_true ar;clear ar
           by_cases au:x42_3<(t914.length:Int)
           ·rw [if_pos au]at H;have cF:=decide_eq_true au;clear au;obtain⟨b,aE,H⟩:=Option.bind_eq_some_iff.mp H;have X:=QA aE;clear aE
            by_cases ab:(wrap64 ((wrap64 ((wrap64 ((Qjc t914 x42_3).f1))*n))+((Qjc t914 x42_3).f2)))<ag
            ·rw[if_pos ab]at H;have av:=decide_eq_true ab;clear ab;obtain rfl:=Option.some.inj H;have l:0≤(x42_3:Int):=of_decide_eq_true qq_3;have m:x42_3<(t914.length:Int):=of_decide_eq_true qq_3;obtain⟨K,s,u,v,x,y,B,D,E⟩:=Qjd (Kd.R_reads' HO_40.out).2.2 x42_3 l m
             cases s
             replace l:=eq_true l;replace m:=eq_true m
             go_wp2_with (first |((with_reducible refine Qft (N:=13) rfl ?_);(try(refine Qia (by rfl) ?_;dsimp only));refine qq_e 13 #[.bool false,.int .u64 0,.string (⟨#[]⟩:ByteArray),.string (⟨#[]⟩:ByteArray),.int .u64 0,.int .i64 0,.int .i64 0] 97 ?_;intro gb918 hg dd hbox hb;have n_:=qn6 (Kd.R_below (Kd.R_elderB qq_13 gb918 (Nat.le_of_eq hg.symm)) hb) (Kd.R_below (Kd.R_elderB qq_12 gb918 (Nat.le_of_eq hg.symm)) hb) (Qfj qq_b hb) (hbox) (qq_s hg:w.heap.size≤gb918) (qq_s hg:w.heap.size≤gb918);clear HO_11 HO_40 HB;obtain⟨HO_11,HO_40,HB,a,L,M⟩:=n_;clear hb hbox hg;obtain⟨aU,aV,aW,aX,aY,aZ,ba⟩:=qc7 a.out;have cG:=Qdw a.out) |((with_reducible refine Qij (f:=22) rfl ?_);refine Qgm (some 48) rfl rfl Tryz.func22 qq_7 rfl #[.agg #[.bool ((Qjc t914 x42_3).f0.f0),.int .u64 ((Qjc t914 x42_3).f0.f1),.string ((Qjc t914 x42_3).f0.f2),.string ((Qjc t914 x42_3).f0.f3)]] rfl qq_1 ?_;(with_reducible refine(Qbq.calls k3 ((Qjc t914 x42_3).f0.f0) ((Qjc t914 x42_3).f0.f1) ((Qjc t914 x42_3).f0.f2) ((Qjc t914 x42_3).f0.f3) b _ X.out).mono ?_);rintro e de ⟨rfl,hb⟩;refine⟨_,rfl,?_⟩;have n_:=qn4 (Kd.R_below qq_6 hb) (Kd.R_below qq_5 hb) (Qei (g:=gb918) (o:=.cells #[.bool ((Qjc t914 x42_3).f0.f0),.int .u64 ((Qjc t914 x42_3).f0.f1),.string ((Qjc t914 x42_3).f0.f2),.string ((Qjc t914 x42_3).f0.f3),.int .u64 ((Qjc t914 x42_3).f1),.int .i64 ((Qjc t914 x42_3).f2),.int .i64 ((Qjc t914 x42_3).f3)] 97 (0,0)) qq_x hb) (Qfj qq_b hb);clear HO_11 HO_40 a HB;obtain⟨HO_11,HO_40,a,HB⟩:=n_;(try clear hb);(try clear hb2);(try clear hk);(try clear hi);obtain⟨bb,bc,bd,be,bf,bg,bh⟩:=qc7 a.out;have cH:=Qdw a.out))
             go_ret
             exact⟨by first|rfl |(simp[Qio,Qip]<;>rfl) |(simp only[← p];first|rfl |(simp[Qio,Qip]<;>rfl)) |(simp[*,Qio,Qip]<;>rfl),qq_b⟩
            ·rw [if_neg ab]at H;have av:=decide_eq_false ab;clear ab
             by_cases ac:(wrap64 (((Qjc t914 x42_3).f2)+((Qjc t914 x42_3).f3))) > n
             ·rw[if_pos ac]at H;have aJ:decide (n<(wrap64 (((Qjc t914 x42_3).f2)+((Qjc t914 x42_3).f3))))=true:=decide_eq_true ac;clear ac;obtain rfl:=Option.some.inj H;have l:0≤(x42_3:Int):=of_decide_eq_true qq_3;have m:x42_3<(t914.length:Int):=of_decide_eq_true qq_3;obtain⟨K,s,u,v,x,y,B,D,E⟩:=Qjd (Kd.R_reads' HO_40.out).2.2 x42_3 l m
              cases s
              replace l:=eq_true l;replace m:=eq_true m
              go_wp2_with (first |((with_reducible refine Qft (N:=13) rfl ?_);(try(refine Qia (by rfl) ?_;dsimp only));refine qq_e 13 #[.bool false,.int .u64 0,.string (⟨#[]⟩:ByteArray),.string (⟨#[]⟩:ByteArray),.int .u64 0,.int .i64 0,.int .i64 0] 97 ?_;intro gb918 hg df hbox hb;have n_:=qn6 (Kd.R_below (Kd.R_elderB qq_13 gb918 (Nat.le_of_eq hg.symm)) hb) (Kd.R_below (Kd.R_elderB qq_12 gb918 (Nat.le_of_eq hg.symm)) hb) (Qfj qq_b hb) (hbox) (qq_s hg:w.heap.size≤gb918) (qq_s hg:w.heap.size≤gb918);clear HO_11 HO_40 HB;obtain⟨HO_11,HO_40,HB,a,L,M⟩:=n_;clear hb hbox hg;obtain⟨bi,bj,bk,bl,bn,bo,bp⟩:=qc7 a.out;have cI:=Qdw a.out) |((with_reducible refine Qij (f:=22) rfl ?_);refine Qgm (some 48) rfl rfl Tryz.func22 qq_7 rfl #[.agg #[.bool ((Qjc t914 x42_3).f0.f0),.int .u64 ((Qjc t914 x42_3).f0.f1),.string ((Qjc t914 x42_3).f0.f2),.string ((Qjc t914 x42_3).f0.f3)]] rfl qq_1 ?_;(with_reducible refine(Qbq.calls k3 ((Qjc t914 x42_3).f0.f0) ((Qjc t914 x42_3).f0.f1) ((Qjc t914 x42_3).f0.f2) ((Qjc t914 x42_3).f0.f3) b _ X.out).mono ?_);rintro e dg ⟨rfl,hb⟩;refine⟨_,rfl,?_⟩;have n_:=qn4 (Kd.R_below qq_6 hb) (Kd.R_below qq_5 hb) (Qei (g:=gb918) (o:=.cells #[.bool ((Qjc t914 x42_3).f0.f0),.int .u64 ((Qjc t914 x42_3).f0.f1),.string ((Qjc t914 x42_3).f0.f2),.string ((Qjc t914 x42_3).f0.f3),.int .u64 ((Qjc t914 x42_3).f1),.int .i64 ((Qjc t914 x42_3).f2),.int .i64 ((Qjc t914 x42_3).f3)] 97 (0,0)) qq_x hb) (Qfj qq_b hb);clear HO_11 HO_40 a HB;obtain⟨HO_11,HO_40,a,HB⟩:=n_;(try clear hb);(try clear hb2);(try clear hk);(try clear hi);obtain⟨bq,br,bs,bu,bv,bw,bx⟩:=qc7 a.out;have cJ:=Qdw a.out))
              go_ret
              exact⟨by first|rfl |(simp[Qio,Qip]<;>rfl) |(simp only[← p];first|rfl |(simp[Qio,Qip]<;>rfl)) |(simp[*,Qio,Qip]<;>rfl),qq_b⟩
             ·rw [if_neg ac]at H;have aJ:decide (n<(wrap64 (((Qjc t914 x42_3).f2)+((Qjc t914 x42_3).f3))))=false:=decide_eq_false ac;clear ac
              by_cases Y:(b.size:Int)=((Qjc t914 x42_3).f3)
              ·rw [if_pos Y]at H;have aK:((b.size:Int) == ((Qjc t914 x42_3).f3))=true:=beq_iff_eq.mpr Y;have aL:((b.size:Int) != ((Qjc t914 x42_3).f3))=false:=bne_eq_false_iff_eq.mpr Y;clear Y
               by_cases ad:(wrap64 ((wrap64 ((wrap64 ((wrap64 ((Qjc t914 x42_3).f1))*n))+((Qjc t914 x42_3).f2)))+(b.size:Int))) > (l1.length:Int)
               ·rw[if_pos ad]at H;have aw:decide ((l1.length:Int)<(wrap64 ((wrap64 ((wrap64 ((wrap64 ((Qjc t914 x42_3).f1))*n))+((Qjc t914 x42_3).f2)))+(b.size:Int))))=true:=decide_eq_true ad;clear ad;obtain rfl:=Option.some.inj H;have l:0≤(x42_3:Int):=of_decide_eq_true qq_3;have m:x42_3<(t914.length:Int):=of_decide_eq_true qq_3;obtain⟨K,s,u,v,x,y,B,D,E⟩:=Qjd (Kd.R_reads' HO_40.out).2.2 x42_3 l m
                cases s
                replace l:=eq_true l;replace m:=eq_true m
                go_wp2_with (first |((with_reducible refine Qft (N:=13) rfl ?_);(try(refine Qia (by rfl) ?_;dsimp only));refine qq_e 13 #[.bool false,.int .u64 0,.string (⟨#[]⟩:ByteArray),.string (⟨#[]⟩:ByteArray),.int .u64 0,.int .i64 0,.int .i64 0] 97 ?_;intro gb918 hg dh hbox hb;have n_:=qn6 (Kd.R_below (Kd.R_elderB qq_13 gb918 (Nat.le_of_eq hg.symm)) hb) (Kd.R_below (Kd.R_elderB qq_12 gb918 (Nat.le_of_eq hg.symm)) hb) (Qfj qq_b hb) (hbox) (qq_s hg:w.heap.size≤gb918) (qq_s hg:w.heap.size≤gb918);clear HO_11 HO_40 HB;obtain⟨HO_11,HO_40,HB,a,L,M⟩:=n_;clear hb hbox hg;obtain⟨bz,bA,bB,bC,bD,bE,bF⟩:=qc7 a.out;have cK:=Qdw a.out) |((with_reducible refine Qij (f:=22) rfl ?_);refine Qgm (some 48) rfl rfl Tryz.func22 qq_7 rfl #[.agg #[.bool ((Qjc t914 x42_3).f0.f0),.int .u64 ((Qjc t914 x42_3).f0.f1),.string ((Qjc t914 x42_3).f0.f2),.string ((Qjc t914 x42_3).f0.f3)]] rfl qq_1 ?_;(with_reducible refine(Qbq.calls k3 ((Qjc t914 x42_3).f0.f0) ((Qjc t914 x42_3).f0.f1) ((Qjc t914 x42_3).f0.f2) ((Qjc t914 x42_3).f0.f3) b _ X.out).mono ?_);rintro e di ⟨rfl,hb⟩;refine⟨_,rfl,?_⟩;have n_:=qn4 (Kd.R_below qq_6 hb) (Kd.R_below qq_5 hb) (Qei (g:=gb918) (o:=.cells #[.bool ((Qjc t914 x42_3).f0.f0),.int .u64 ((Qjc t914 x42_3).f0.f1),.string ((Qjc t914 x42_3).f0.f2),.string ((Qjc t914 x42_3).f0.f3),.int .u64 ((Qjc t914 x42_3).f1),.int .i64 ((Qjc t914 x42_3).f2),.int .i64 ((Qjc t914 x42_3).f3)] 97 (0,0)) qq_x hb) (Qfj qq_b hb);clear HO_11 HO_40 a HB;obtain⟨HO_11,HO_40,a,HB⟩:=n_;(try clear hb);(try clear hb2);(try clear hk);(try clear hi);obtain⟨bG,bH,bI,bJ,bK,bL,bM⟩:=qc7 a.out;have cL:=Qdw a.out))
                go_ret
                exact⟨by first|rfl |(simp[Qio,Qip]<;>rfl) |(simp only[← p];first|rfl |(simp[Qio,Qip]<;>rfl)) |(simp[*,Qio,Qip]<;>rfl),qq_b⟩
               ·rw [if_neg ad]at H;have aw:decide ((l1.length:Int)<(wrap64 ((wrap64 ((wrap64 ((wrap64 ((Qjc t914 x42_3).f1))*n))+((Qjc t914 x42_3).f2)))+(b.size:Int))))=false:=decide_eq_false ad;clear ad;obtain⟨d,t⟩:∃j_:Int,(wrap64 ((wrap64 ((wrap64 ((Qjc t914 x42_3).f1))*n))+((Qjc t914 x42_3).f2)))=j_:=⟨_,rfl⟩;replace H:(if 0≤(d)then(if(d)≤(wrap64 ((d)+(b.size:Int)))then(if(wrap64 ((d)+(b.size:Int)))≤(l1.length:Int)then(if(strOfNums ((l1.take ((wrap64 ((d)+(b.size:Int))):Int).toNat).drop ((d):Int).toNat)).toList=b.toList then(Qat.l1 k3 l1 n G (wrap64 (W+((Qjc t914 x42_3).f3))) (wrap64 ((d)+((Qjc t914 x42_3).f3))) t914 t914 (t914.length:Int) (wrap64 (x42_3+1)))else(some false))else(none))else(none))else(none))=some r:=by first |(rw[t]at H;exact H) |(simp only[t]at H ⊢;exact H)
                (try rw[t]at av)
                (try rw[t]at aw)
                (try rw[t]at X)
                have cB:(IntKind.i64.wrap ((wrap64 ((wrap64 ((Qjc t914 x42_3).f1))*n))+((Qjc t914 x42_3).f2)))=d:=(Qgo _).trans t
                by_cases al:0≤(d)
                ·rw [if_pos al]at H;have cM:=eq_true al;have cN:=decide_eq_true al;clear al
                 by_cases ax:(d)≤(wrap64 ((d)+(b.size:Int)))
                 ·rw[if_pos ax]at H;have cO:=eq_true ax;have cP:=decide_eq_true ax
                  by_cases ay:(wrap64 ((d)+(b.size:Int)))≤(l1.length:Int)
                  ·rw[if_pos ay]at H;have cQ:=eq_true ay;have cR:=decide_eq_true ay
                   by_cases Z:(strOfNums ((l1.take ((wrap64 ((d)+(b.size:Int))):Int).toNat).drop ((d):Int).toNat)).toList=b.toList
                   ·rw[if_pos Z]at H;have aM:((strOfNums ((l1.take ((wrap64 ((d)+(b.size:Int))):Int).toNat).drop ((d):Int).toNat)).toList == b.toList)=true:=beq_iff_eq.mpr Z;have aN:((strOfNums ((l1.take ((wrap64 ((d)+(b.size:Int))):Int).toNat).drop ((d):Int).toNat)).toList != b.toList)=false:=bne_eq_false_iff_eq.mpr Z;clear Z;have H':=QA H;clear H;have l:0≤(x42_3:Int):=of_decide_eq_true qq_3;have m:x42_3<(t914.length:Int):=of_decide_eq_true qq_3;obtain⟨K,s,u,v,x,y,B,D,E⟩:=Qjd (Kd.R_reads' HO_40.out).2.2 x42_3 l m
                    cases s
                    replace l:=eq_true l;replace m:=eq_true m
                    go_wp2_with (first |((with_reducible refine Qft (N:=13) rfl ?_);(try(refine Qia (by rfl) ?_;dsimp only));refine qq_e 13 #[.bool false,.int .u64 0,.string (⟨#[]⟩:ByteArray),.string (⟨#[]⟩:ByteArray),.int .u64 0,.int .i64 0,.int .i64 0] 97 ?_;intro gb918 hg dj hbox hb;have n_:=qn6 (Kd.R_below (Kd.R_elderB qq_13 gb918 (Nat.le_of_eq hg.symm)) hb) (Kd.R_below (Kd.R_elderB qq_12 gb918 (Nat.le_of_eq hg.symm)) hb) (Qfj qq_b hb) (hbox) (qq_s hg:w.heap.size≤gb918) (qq_s hg:w.heap.size≤gb918);clear HO_11 HO_40 HB;obtain⟨HO_11,HO_40,HB,a,L,M⟩:=n_;clear hb hbox hg;obtain⟨bN,bO,bP,bQ,bR,bS,bT⟩:=qc7 a.out;have cS:=Qdw a.out) |((with_reducible refine Qij (f:=22) rfl ?_);refine Qgm (some 48) rfl rfl Tryz.func22 qq_7 rfl #[.agg #[.bool ((Qjc t914 x42_3).f0.f0),.int .u64 ((Qjc t914 x42_3).f0.f1),.string ((Qjc t914 x42_3).f0.f2),.string ((Qjc t914 x42_3).f0.f3)]] rfl qq_1 ?_;(with_reducible refine(Qbq.calls k3 ((Qjc t914 x42_3).f0.f0) ((Qjc t914 x42_3).f0.f1) ((Qjc t914 x42_3).f0.f2) ((Qjc t914 x42_3).f0.f3) b _ X.out).mono ?_);rintro e dk ⟨rfl,hb⟩;refine⟨_,rfl,?_⟩;have n_:=qn4 (Kd.R_below qq_6 hb) (Kd.R_below qq_5 hb) (Qei (g:=gb918) (o:=.cells #[.bool ((Qjc t914 x42_3).f0.f0),.int .u64 ((Qjc t914 x42_3).f0.f1),.string ((Qjc t914 x42_3).f0.f2),.string ((Qjc t914 x42_3).f0.f3),.int .u64 ((Qjc t914 x42_3).f1),.int .i64 ((Qjc t914 x42_3).f2),.int .i64 ((Qjc t914 x42_3).f3)] 97 (0,0)) qq_x hb) (Qfj qq_b hb);clear HO_11 HO_40 a HB;obtain⟨HO_11,HO_40,a,HB⟩:=n_;(try clear hb);(try clear hb2);(try clear hk);(try clear hi);obtain⟨bU,bV,bW,bX,bY,bZ,b0⟩:=qc7 a.out;have cT:=Qdw a.out;obtain⟨cZ,hi048,_,hsz48,_⟩:=info_parts Qiq;obtain⟨cC,hcut48,hA48,hC48⟩:=Qel (P:=Tryz.prog) (Value.int .u8) 0 52 5 .i64 .i64 Tryz.underlying52 hi048 hsz48 A1 c1 l1 (d) (wrap64 ((d)+(b.size:Int))) (of_decide_eq_true qq_3) (by first|omega|exact of_decide_eq_true qq_3) (of_decide_eq_true qq_3) aB.out;have ah:=QA (Kd.C_of_reads (h1:=fun _=>rfl) (hA48 _ (Kd.reads_of_C ai.out)));have aO:=QA hC48;clear hA48 hC48 hi048 hsz48;have az:=Kd.C_string (P:=Tryz.prog) (A:=cC) (c:=(c1-(d).toNat)) Tryz.underlying52 Tryz.underlying5 Tryz.underlying9 (Kd.C_below ah.out HB.out);simp only[List.length_drop,List.length_take]at az;rw[Nat.min_eq_left (show(wrap64 (d+(b.size:Int))).toNat≤l1.length by have z:=of_decide_eq_true (show decide (wrap64 (d+(b.size:Int))≤(l1.length:Int))=true by assumption);omega)]at az))
                    go_roundg k3
                    case measure=>have:=HJ2.out;have:=HK2.out;have:=HK3.out;omega
                    case rel=>exact⟨(wrap64 (W+((Qjc t914 x42_3).f3))),(wrap64 ((d)+((Qjc t914 x42_3).f3))),(wrap64 (x42_3+1)),qq_4,(by first|rfl |(simp;done) |(simp only[← t]<;>(first|rfl|simp)) |(simp[*];done)),qq_4,H',⟨by have:=HJ2.out;have:=HK2.out;have:=HK3.out;omega⟩,⟨by(with_reducible repeat(first|apply Kd.R_alloc|apply Kd.R_drewN|apply Kd.R_drew));exact Kd.R_mono HO_11.out (fun _ hk=>trivial)⟩,⟨by(with_reducible repeat(first|apply Kd.R_alloc|apply Kd.R_drewN|apply Kd.R_drew));exact Kd.R_mono HO_40.out (fun _ hk=>trivial)⟩,⟨qq_b⟩⟩
                   ·rw[if_neg Z]at H;have aM:((strOfNums ((l1.take ((wrap64 ((d)+(b.size:Int))):Int).toNat).drop ((d):Int).toNat)).toList == b.toList)=false:=beq_eq_false_iff_ne.mpr Z;have aN:((strOfNums ((l1.take ((wrap64 ((d)+(b.size:Int))):Int).toNat).drop ((d):Int).toNat)).toList != b.toList)=true:=bne_iff_ne.mpr Z;obtain rfl:=Option.some.inj H;have l:0≤(x42_3:Int):=of_decide_eq_true qq_3;have m:x42_3<(t914.length:Int):=of_decide_eq_true qq_3;obtain⟨K,s,u,v,x,y,B,D,E⟩:=Qjd (Kd.R_reads' HO_40.out).2.2 x42_3 l m
                    cases s
                    replace l:=eq_true l;replace m:=eq_true m
                    go_wp2_with (first |((with_reducible refine Qft (N:=13) rfl ?_);(try(refine Qia (by rfl) ?_;dsimp only));refine qq_e 13 #[.bool false,.int .u64 0,.string (⟨#[]⟩:ByteArray),.string (⟨#[]⟩:ByteArray),.int .u64 0,.int .i64 0,.int .i64 0] 97 ?_;intro gb918 hg dl hbox hb;have n_:=qn6 (Kd.R_below (Kd.R_elderB qq_13 gb918 (Nat.le_of_eq hg.symm)) hb) (Kd.R_below (Kd.R_elderB qq_12 gb918 (Nat.le_of_eq hg.symm)) hb) (Qfj qq_b hb) (hbox) (qq_s hg:w.heap.size≤gb918) (qq_s hg:w.heap.size≤gb918);clear HO_11 HO_40 HB;obtain⟨HO_11,HO_40,HB,a,L,M⟩:=n_;clear hb hbox hg;obtain⟨b1,b2,b3,b4,b5,b6,b7⟩:=qc7 a.out;have cU:=Qdw a.out) |((with_reducible refine Qij (f:=22) rfl ?_);refine Qgm (some 48) rfl rfl Tryz.func22 qq_7 rfl #[.agg #[.bool ((Qjc t914 x42_3).f0.f0),.int .u64 ((Qjc t914 x42_3).f0.f1),.string ((Qjc t914 x42_3).f0.f2),.string ((Qjc t914 x42_3).f0.f3)]] rfl qq_1 ?_;(with_reducible refine(Qbq.calls k3 ((Qjc t914 x42_3).f0.f0) ((Qjc t914 x42_3).f0.f1) ((Qjc t914 x42_3).f0.f2) ((Qjc t914 x42_3).f0.f3) b _ X.out).mono ?_);rintro e dm ⟨rfl,hb⟩;refine⟨_,rfl,?_⟩;have n_:=qn4 (Kd.R_below qq_6 hb) (Kd.R_below qq_5 hb) (Qei (g:=gb918) (o:=.cells #[.bool ((Qjc t914 x42_3).f0.f0),.int .u64 ((Qjc t914 x42_3).f0.f1),.string ((Qjc t914 x42_3).f0.f2),.string ((Qjc t914 x42_3).f0.f3),.int .u64 ((Qjc t914 x42_3).f1),.int .i64 ((Qjc t914 x42_3).f2),.int .i64 ((Qjc t914 x42_3).f3)] 97 (0,0)) qq_x hb) (Qfj qq_b hb);clear HO_11 HO_40 a HB;obtain⟨HO_11,HO_40,a,HB⟩:=n_;(try clear hb);(try clear hb2);(try clear hk);(try clear hi);obtain⟨b8,b9,ca,cb,cc,cd,ce⟩:=qc7 a.out;have cV:=Qdw a.out;obtain⟨da,hi054,_,hsz54,_⟩:=info_parts Qiq;obtain⟨cD,hcut54,hA54,hC54⟩:=Qel (P:=Tryz.prog) (Value.int .u8) 0 52 5 .i64 .i64 Tryz.underlying52 hi054 hsz54 A1 c1 l1 (d) (wrap64 ((d)+(b.size:Int))) (of_decide_eq_true qq_3) (by first|omega|exact of_decide_eq_true qq_3) (of_decide_eq_true qq_3) aB.out;have ah:=QA (Kd.C_of_reads (h1:=fun _=>rfl) (hA54 _ (Kd.reads_of_C ai.out)));have aO:=QA hC54;clear hA54 hC54 hi054 hsz54;have aA:=Kd.C_string (P:=Tryz.prog) (A:=cD) (c:=(c1-(d).toNat)) Tryz.underlying52 Tryz.underlying5 Tryz.underlying9 (Kd.C_below ah.out HB.out);simp only[List.length_drop,List.length_take]at aA;rw[Nat.min_eq_left (show(wrap64 (d+(b.size:Int))).toNat≤l1.length by have z:=of_decide_eq_true (show decide (wrap64 (d+(b.size:Int))≤(l1.length:Int))=true by assumption);omega)]at aA))
                    go_ret
                    exact⟨by first|rfl |(simp[Qio,Qip]<;>rfl) |(simp only[← p,← t];first|rfl |(simp[Qio,Qip]<;>rfl)) |(simp[*,Qio,Qip]<;>rfl),qq_b⟩
                  ·rw[if_neg ay]at H;exact absurd H (by simp)
                 ·rw[if_neg ax]at H;exact absurd H (by simp)
                ·rw[if_neg al]at H;exact absurd H (by simp)
              ·rw[if_neg Y]at H;have aK:((b.size:Int) == ((Qjc t914 x42_3).f3))=false:=beq_eq_false_iff_ne.mpr Y;have aL:((b.size:Int) != ((Qjc t914 x42_3).f3))=true:=bne_iff_ne.mpr Y;obtain rfl:=Option.some.inj H;have l:0≤(x42_3:Int):=of_decide_eq_true qq_3;have m:x42_3<(t914.length:Int):=of_decide_eq_true qq_3;obtain⟨K,s,u,v,x,y,B,D,E⟩:=Qjd (Kd.R_reads' HO_40.out).2.2 x42_3 l m
               cases s
               replace l:=eq_true l;replace m:=eq_true m
               go_wp2_with (first |((with_reducible refine Qft (N:=13) rfl ?_);(try(refine Qia (by rfl) ?_;dsimp only));refine qq_e 13 #[.bool false,.int .u64 0,.string (⟨#[]⟩:ByteArray),.string (⟨#[]⟩:ByteArray),.int .u64 0,.int .i64 0,.int .i64 0] 97 ?_;intro gb918 hg dn hbox hb;have n_:=qn6 (Kd.R_below (Kd.R_elderB qq_13 gb918 (Nat.le_of_eq hg.symm)) hb) (Kd.R_below (Kd.R_elderB qq_12 gb918 (Nat.le_of_eq hg.symm)) hb) (Qfj qq_b hb) (hbox) (qq_s hg:w.heap.size≤gb918) (qq_s hg:w.heap.size≤gb918);clear HO_11 HO_40 HB;obtain⟨HO_11,HO_40,HB,a,L,M⟩:=n_;clear hb hbox hg;obtain⟨cf,cg,ch,cj,ck,cl,cm⟩:=qc7 a.out;have cW:=Qdw a.out) |((with_reducible refine Qij (f:=22) rfl ?_);refine Qgm (some 48) rfl rfl Tryz.func22 qq_7 rfl #[.agg #[.bool ((Qjc t914 x42_3).f0.f0),.int .u64 ((Qjc t914 x42_3).f0.f1),.string ((Qjc t914 x42_3).f0.f2),.string ((Qjc t914 x42_3).f0.f3)]] rfl qq_1 ?_;(with_reducible refine(Qbq.calls k3 ((Qjc t914 x42_3).f0.f0) ((Qjc t914 x42_3).f0.f1) ((Qjc t914 x42_3).f0.f2) ((Qjc t914 x42_3).f0.f3) b _ X.out).mono ?_);rintro e dp ⟨rfl,hb⟩;refine⟨_,rfl,?_⟩;have n_:=qn4 (Kd.R_below qq_6 hb) (Kd.R_below qq_5 hb) (Qei (g:=gb918) (o:=.cells #[.bool ((Qjc t914 x42_3).f0.f0),.int .u64 ((Qjc t914 x42_3).f0.f1),.string ((Qjc t914 x42_3).f0.f2),.string ((Qjc t914 x42_3).f0.f3),.int .u64 ((Qjc t914 x42_3).f1),.int .i64 ((Qjc t914 x42_3).f2),.int .i64 ((Qjc t914 x42_3).f3)] 97 (0,0)) qq_x hb) (Qfj qq_b hb);clear HO_11 HO_40 a HB;obtain⟨HO_11,HO_40,a,HB⟩:=n_;(try clear hb);(try clear hb2);(try clear hk);(try clear hi);obtain⟨cn,co,cp,cq,cr,cs,ct⟩:=qc7 a.out;have cX:=Qdw a.out))
               go_ret
               exact⟨by first|rfl |(simp[Qio,Qip]<;>rfl) |(simp only[← p];first|rfl |(simp[Qio,Qip]<;>rfl)) |(simp[*,Qio,Qip]<;>rfl),qq_b⟩
           ·rw[if_neg au]at H;exact absurd H (by simp)
          ·rw[if_neg ar]at H;exact absurd H (by simp)
         ·rw[if_neg aa]at H;have aI:=decide_eq_false aa;clear aa
          by_cases ae:(t914.length:Int)≤G
          ·rw[if_pos ae]at H;have aP:=decide_eq_true ae;clear ae;obtain rfl:=Option.some.inj H;go_wp2;go_ret
           exact⟨by first|rfl |(simp[Qio,Qip]<;>rfl) |(simp only[← p];first|rfl |(simp[Qio,Qip]<;>rfl)) |(simp[*,Qio,Qip]<;>rfl),qq_b⟩
          ·rw[if_neg ae]at H;have aP:=decide_eq_false ae;clear ae;obtain rfl:=Option.some.inj H;go_wp2;go_ret
           exact⟨by first|rfl |(simp[Qio,Qip]<;>rfl) |(simp only[← p];first|rfl |(simp[Qio,Qip]<;>rfl)) |(simp[*,Qio,Qip]<;>rfl),qq_b⟩
end Go.Proofs.YtnnofopfbeklbaaGreat.C
end
section
namespace Go.Proofs.YtnnofopfbeklbaaGreat.Open
open Go.RowKit Go.Proofs.YtnnofopfbeklbaaGreatW.PrintWords Go.ChangeShapes Go.WideShapes Go.Deep
structure Opens (P:Program) (t:TypeId) {α:Type} (d:Kd α) (G:α→Prop):Prop where
  sz:P.cellsOf t=d.sz
  out:∀ {H:Type} {enc:TypeId × Value→H} {w:World} {base:Nat} {spare:Nat→Bool} {held:Bool} {fuel:Nat} {cs:List Value} {x:DataW H × List MemPlace},
    DataW.trod enc P w base spare held fuel t cs=some x→(∀n∈DataW.weights P t x.1,n≤reachBytes)→∃v,d.K w v cs∧G v
theorem Qwt{P:Program}{t:TypeId}{k:IntKind}(ht:P.underlying t=some (.int k))(hc:P.cellsOf t=1):Opens P t (Kd.int k) (fun n=>(Lit.int k n).wf=true) :=
 ⟨hc,fun h _=>by
  obtain⟨b,rfl,_,hw⟩:=DataW.trod_int ht h
  exact⟨b,rfl,hw⟩⟩
theorem Qwu{H:Type}{P:Program}{e:TypeId}{n:Nat}:∀ {ds:List (DataW H)} {d:DataW H},d∈ds→n∈DataW.weights P e d→n∈DataW.weightsAll P e ds
 | [],_,h,_=>by simp at h
 | a :: r,d,h,hn=>by
  simp only[DataW.weightsAll]
  rcases List.mem_cons.1 h with rfl|h
  ·exact List.mem_append_left _ hn
  ·exact List.mem_append_right _ (Qwu h hn)
theorem Qwv{P:Program}{t e:TypeId}{α:Type}{d:Kd α}{G:α→Prop}{B:Nat}(ht:P.underlying t=some (.slice e))(hc:P.cellsOf t=1)(hB:P.bytesOf e=B)(he:Opens P e d G) :
  Opens P t (Kd.slice e d) (fun xs=>xs.length*B≤140737488351232∧∀x∈xs,G x) :=
 ⟨hc, fun {H enc w base spare held fuel cs x} h hs=>by
  rcases open_slice ht h with⟨rfl,rfl⟩ |⟨a,len,cap,m,n,D,Pl,rfl,hb,hl,hm,hmm,rfl,hx⟩
  ·exact⟨[],⟨none,0,rfl,Nat.zero_le _,rfl,by simp,fun hp=>absurd hp (by simp)⟩,by simp,by simp⟩
  have hlm:len≤m:=by rw[hmm];split<;>omega
  have hw:∀i,i<len→∃v,(∃cs',w.cells? base (a.add (i*P.cellsOf e)) (P.cellsOf e)=some cs'∧d.K w v cs')∧G v:=by
   intro i hi
   obtain⟨cs',h1,h2⟩:=hx i (by omega)
   obtain⟨v,hv,hg⟩:=he.out h2 (fun q hq=>hs q (by
    simp only[DataW.weights,ht]
    refine List.mem_cons_of_mem _ (List.mem_append_left _ (Qwu (d:=D i) ?_ hq))
    exact List.mem_map.2 ⟨i,List.mem_range.2 hi,rfl⟩))
   exact⟨v,⟨cs',h1,hv⟩,hg⟩
  have hw':∃xs:List α,xs.length=len∧∀i p,xs[i]? = some p→(∃cs',w.cells? base (a.add (i*P.cellsOf e)) (P.cellsOf e)=some cs'∧d.K w p cs')∧G p:=by
   clear hs hx hmm hlm hm hl h
   induction len with
   | zero=>exact⟨[],rfl,by simp⟩
   | succ q ih =>
    obtain⟨xs,hxl,hxs⟩:=ih (fun i hi=>hw i (by omega))
    obtain⟨v,hv⟩:=hw q (by omega)
    refine⟨xs++[v],by simp[hxl],fun i p hp=>?_⟩
    rcases Nat.lt_or_ge i xs.length with hi|hi
    ·rw[List.getElem?_append_left hi]at hp
     exact hxs i p hp
    ·have:i=q:=by
      have:=(List.getElem?_eq_some_iff.1 hp).1
      simp at this
      omega
     subst this
     rw[← hxl]at hp
     have:v=p:=by simpa using hp
     subst this
     exact hv
  obtain⟨xs,hxl,hxs⟩:=hw'
  have hlen:len*B≤140737488351232:=by
   have:=hs ((((List.range len).map D).length+((List.range (m-len)).map fun j=>D (len+j)).length)*P.bytesOf e) (by simp[DataW.weights,ht])
   rw[hB]at this
   have h2:(((List.range len).map D).length+((List.range (m-len)).map fun j=>D (len+j)).length)=m:=by simp;omega
   rw[h2]at this
   have h3:m*B≤140737488351232:=by simpa [reachBytes]using this
   exact Nat.le_trans (Nat.mul_le_mul_right _ hlm) h3
  refine⟨xs,⟨some a,cap,by rw[hxl],by rw[hxl];exact hl,rfl,?_,fun hp=>⟨a,rfl,fun j p hj=>?_⟩⟩,by rw[hxl];exact hlen,fun x hx=>?_⟩
  ·rw[hxl]
   exact Nat.le_trans hl (by simpa [maxLen]using hm)
  ·obtain⟨⟨cs',h1,h2⟩,_⟩:=hxs j p hj
   obtain⟨_,hcl,hcc⟩:=World.cells?_some h1
   refine⟨cs',by rw[hcl,he.sz],h2,fun i u hu=>?_⟩
   have hi:i<P.cellsOf e:=by rw[← hcl];exact(List.getElem?_eq_some_iff.1 hu).1
   rw[he.sz]at hcc hi
   have:=hcc i hi
   rw[Go.Deep.add_add]at this
   rw[this,hu]
  ·obtain⟨i,hi⟩:=List.getElem?_of_mem hx
   exact(hxs i x hi).2⟩
structure OpensFs (P:Program) (ts:List TypeId) {α:Type} (d:Kd α) (G:α→Prop):Prop where
  sz:(ts.map P.cellsOf).sum=d.sz
  out:∀ {H:Type} {enc:TypeId × Value→H} {w:World} {base:Nat} {spare:Nat→Bool} {held:Bool} {fuel:Nat} {cs:List Value} {xs:List (DataW H × List MemPlace)},
    cs.length=(ts.map P.cellsOf).sum→xs.length=ts.length →
    (∀i t,ts[i]? = some t→DataW.trod enc P w base spare held fuel t ((cs.drop ((ts.take i).map P.cellsOf).sum).take (P.cellsOf t))=xs[i]?) →
    (∀n∈DataW.weightsEach P ts (xs.map (·.1)),n≤reachBytes)→∃v,d.K w v cs∧G v
theorem Qww{H:Type}{P:Program}:∀ {ts:List TypeId} {ds:List (DataW H)} {j:Nat} {t:TypeId} {d:DataW H},(DataW.weightsEach P ts ds).all (·≤reachBytes)=true→ts[j]? = some t→ds[j]? = some d→∀n∈DataW.weights P t d,n≤reachBytes
 | [],_,_,_,_,_,h,_=>by simp at h
 | _ :: _,[],_,_,_,_,_,h=>by simp at h
 | t0 :: ts,d0 :: ds,0,t,d,hz,h1,h2=>by
  simp at h1 h2
  subst h1 h2
  intro n hn
  simp only[DataW.weightsEach]at hz
  exact of_decide_eq_true (List.all_eq_true.1 hz n (List.mem_append_left _ hn))
 | t0 :: ts,d0 :: ds,j+1,t,d,hz,h1,h2=>by
  simp only[DataW.weightsEach]at hz
  refine Qww (ts:=ts) (ds:=ds) (j:=j) ?_ (by simpa using h1) (by simpa using h2)
  rw[List.all_append]at hz
  exact(Bool.and_eq_true _ _ ▸ hz).2
theorem Qwx{H:Type}{enc:TypeId × Value→H}{P:Program}{w:World}{base:Nat}{spare:Nat→Bool}{held:Bool}{t e:TypeId}{α:Type}{d:Kd α}{G:List α→Prop}(op:Opens P t (Kd.slice e d) G){a:Option Addr}{len cap:Nat}{x:DataW H}{ps:List MemPlace}
  (h:DataW.Trod enc P w base spare held t (.slice a len cap) x ps) (hs:∀n∈DataW.weights P t x,n≤reachBytes):∃l:List α,len=l.length∧l.length≤cap∧d.C w a l.length l∧G l:=by
 obtain⟨fuel,hf⟩:=h
 obtain⟨l,⟨A,c,he,hc,hr⟩,hg⟩:=op.out hf hs
 have he':[Value.slice a len cap]=[.slice A l.length c]:=by simpa [Value.cells]using he
 simp only[List.cons.injEq,Value.slice.injEq,and_true]at he'
 obtain⟨rfl,rfl,rfl⟩:=he'
 exact⟨l,rfl,hc,hr,hg⟩
end Go.Proofs.YtnnofopfbeklbaaGreat.Open
end
section
namespace Go.Proofs.YtnnofopfbeklbaaGreat.C
open Go.RowKit Go.Proofs.YtnnofopfbeklbaaGreatW.PrintWords Go.Proofs.YtnnofopfbeklbaaGreatW.PrintLast Go.Proofs.YtnnofopfbeklbaaGreatW.PrintMore Go.Proofs.YtnnofopfbeklbaaGreat.Open
theorem opT5:Opens Tryz.prog 5 (Kd.int .u8) (fun x=>(Lit.int .u8 x).wf=true):=Qwt Tryz.underlying5 (by kernel_rfl)
theorem opT52:Opens Tryz.prog 52 (Kd.slice 5 (Kd.int .u8)) (fun x=>(x.length*1≤140737488351232∧∀z1∈x,(Lit.int .u8 z1).wf=true)):=Qwv (B:=1) Tryz.underlying52 (by kernel_rfl) (by kernel_rfl) opT5
def Qas.Pure:Prop:=∀(x0:Int) (x1:List Int),(Lit.int .i64 x0).wf=true→(x1.length*1≤140737488351232∧∀z2∈x1,(Lit.int .u8 z2).wf=true)→∃k,Qas.f k x0 x1=some true
def Qat.Pure:Prop:=∀(x0:Int) (x1:List Int),(Lit.int .i64 x0).wf=true→(x1.length*1≤140737488351232∧∀z2∈x1,(Lit.int .u8 z2).wf=true)→∃k,Qat.f k x0 x1=some true
end Go.Proofs.YtnnofopfbeklbaaGreat.C
end
section
namespace Go.Proofs.YtnnofopfbeklbaaGreat.Pure
open Go.RowKit Go.Proofs.YtnnofopfbeklbaaGreat.C Go.Proofs.YtnnofopfbeklbaaGreat.CodecP Go.Proofs.YtnnofopfbeklbaaGreatW.PrintWords Go.Proofs.YtnnofopfbeklbaaGreatW.PrintLast Go.Proofs.YtnnofopfbeklbaaGreatW.PrintMore Go.Proofs.YtnnofopfbeklbaaGreat.Open
theorem Qxn{l:List Int}(h:∀z∈l,(Lit.int .u8 z).wf=true):Bytes l:=by
 intro x hx;have h1:=h x hx;simp only[Lit.wf,IntKind.min,IntKind.max,IntKind.signed,IntKind.bits,Bool.and_eq_true,decide_eq_true_eq]at h1;simp at h1;omega
theorem SalvageAny:Qas.Pure:=by
 intro a l h0 hl;have hb:=Qxn hl.2;obtain⟨K,hK⟩:∃K:Nat,K=8000000:=⟨_,rfl⟩;refine⟨K+1,?_⟩;unfold Qas.f;rw[show Qar.f=some true from rfl,Option.bind_some,if_pos rfl,Qas.j0]
 by_cases h6:l.length≤3000
 ·rw[if_neg qq_20,Option.bind_some,if_pos qq_20,List.nil_append,Option.bind_some];have hlen:=Qxm a l;have hs:=Qxi a (strOfNums l) (by rw[strOfNums_size];omega) (K+0) (by omega);rw[bytesOf_nums hb]at hs;obtain⟨o,g1,g2⟩:=Qxl (allF a l) (by omega) (K+0) (by omega);have hsm:=same_is (allF a l) (by omega) (K+0) (by omega);rw[Qwp a l hb (by omega) K (by omega),Option.bind_some];rw[show K+0=K from rfl]at *;rw[hs,Option.bind_some,hsm,Option.bind_some,if_pos rfl,g1,Option.bind_some,if_pos (by rw[g2])];simp
 ·rw[if_pos qq_20,show Qar.f=some true from rfl];rfl
theorem Qxw{l:List Int}(h:∀z∈l,(Lit.int .u8 z).wf=true):Bytes l:=by
 intro x hx;have h1:=h x hx;simp only[Lit.wf,IntKind.min,IntKind.max,IntKind.signed,IntKind.bits,Bool.and_eq_true,decide_eq_true_eq]at h1;simp at h1;omega
theorem b_l0(x0:Int)(L:List Int)(n:Int)(hL:L.length≤3000):∀(d j k c:Nat),j+d=L.length→c≤j→Qat.l0 (k+d+1) x0 L n (c:Int) 0 0 L (L.length:Int) (j:Int)=(Qcq.f k x0 L).bind fun t=>Qat.l1 k L n ((c+Qxp (L.drop j):Nat):Int) 0 0 t t (t.length:Int) 0
 | 0,j,k,c,hd,hc=>by
  rw[List.drop_of_length_le (by omega)];unfold Qat.l0;rw[if_neg (by omega)];rfl
 | d+1,j,k,c,hd,hc=>by
  have hj:j<L.length:=by omega
  rw[Quo hj];unfold Qat.l0 Qxp;rw[if_pos (by omega),if_pos (by omega),if_pos (by omega),Qot j (by omega),Qot c (by omega),show k+(d+1)=k+d+1 by omega]
  by_cases hx:rd L (j:Int)=0
  ·rw[if_pos hx,if_pos hx,b_l0 x0 L n hL d (j+1) k (c+1) (by omega) (by omega),show c+1+Qxp (L.drop (j+1))=c+(1+Qxp (L.drop (j+1)))by omega]
  ·rw[if_neg hx,if_neg hx,b_l0 x0 L n hL d (j+1) k c (by omega) (by omega),show c+(0+Qxp (L.drop (j+1)))=c+Qxp (L.drop (j+1))by omega]
theorem b_l1(L:List Int)(hb:Bytes L)(hL:L.length≤3000)(n:Nat)(hn:0<n)(x6:Int)(X:List C.Fd)(hX:X.length≤3000)(hX6:(X.length:Int)≤x6):∀(d j k al last:Nat),j+d=X.length→RunF n L last (X.drop j)→al≤last→last≤L.length→3000000≤k→Qat.l1 (k+d+1) L (n:Int) x6 (al:Int) (last:Int) X X (X.length:Int) (j:Int)=some true
 | 0,j,k,al,last,hd,hR,ha,hl,hk=>by
  unfold Qat.l1;rw[if_neg (by omega),if_pos hX6,decide_eq_true (by omega)]
 | d+1,j,k,al,last,hd,hR,ha,hl,hk=>by
  have hj:j<X.length:=by omega
  rw[List.drop_eq_getElem_cons hj]at hR;have hr:Qjc X (j:Int)=X[j]:=by
   unfold Qjc;rw[Int.toNat_natCast,List.getD_eq_getElem?_getD,List.getElem?_eq_getElem hj];rfl
  obtain⟨s,f,m,e1,e2,e3,h4,h5,h6,h7,h8,h9,a⟩:=hR;have hsn:s≤s*n:=Nat.le_mul_of_pos_right _ hn;have hck:=Qnu h7.1;obtain⟨t,ht,hbt⟩:=Qru (k+(d+1)) X[j].f0.f0 X[j].f0.f1 X[j].f0.f2 X[j].f0.f3 h7.2.1 h7.2.2 (by omega) (by omega) (by omega);have hbt':bytesOf t=Qud X[j].f0:=hbt;have hts:t.size=m:=by rw[← Qdi,hbt',h9]
  have hto:strOfNums ((L.drop (s*n+f)).take m)=t:=Qoj (by rw[bytesOf_nums (fun x hx=>hb x (List.mem_of_mem_drop (List.mem_of_mem_take hx))),h8,hbt']);have hfm:f+m≤3000:=by omega
  have hall:s*n+f+m≤3000:=by omega
  have ham:al+m≤6000:=by omega
  have hw1:=QA (show wrap64 (((s*n+f:Nat):Int)+(m:Int))=((s*n+f+m:Nat):Int) from(congrArg wrap64 (Int.natCast_add _ _).symm).trans (Qxe (s*n+f+m) (Nat.lt_of_le_of_lt hall (by decide))));have hw2:=QA (show wrap64 ((f:Int)+(m:Int))=((f+m:Nat):Int) from(congrArg wrap64 (Int.natCast_add _ _).symm).trans (Qxe (f+m) (Nat.lt_of_le_of_lt hfm (by decide))));have hw3:=QA (show wrap64 ((al:Int)+(m:Int))=((al+m:Nat):Int) from(congrArg wrap64 (Int.natCast_add _ _).symm).trans (Qxe (al+m) (Nat.lt_of_le_of_lt ham (by decide))));unfold Qat.l1;rw[if_pos (by omega),if_pos (by omega),if_pos (by omega),hr,ht,Option.bind_some,e1,e2,e3,hts];rw[Qxe s (by omega),← Int.natCast_mul,Qxe (s*n) (by omega),← Int.natCast_add,Qxe (s*n+f) (by omega),hw1.out,hw2.out,hw3.out];rw[if_neg (by omega),if_neg (by omega),if_pos rfl,if_neg (by omega),if_pos (by omega),if_pos (by omega),if_pos (by omega),Int.toNat_natCast,Int.toNat_natCast];rw[if_pos (by rw[List.drop_take,show s*n+f+m-(s*n+f)=m by omega,hto]),Qot j (by omega),show k+(d+1)=k+d+1 by omega];exact b_l1 L hb hL n hn x6 X hX hX6 d (j+1) k (al+m) (s*n+f+m) (by omega) a (by omega) (by omega) hk
theorem SalvageBounds:Qat.Pure:=by
 intro a l h0 hl;have hb:=Qxw hl.2;obtain⟨K,hK⟩:∃K:Nat,K=8000000:=⟨_,rfl⟩
 by_cases h6:l.length≤3000
 ·have hlen:=Qxm a l;have hno:=Qxu a l;have hnl:=Qxv l;have hn:0<nOf a:=by unfold nOf;split<;>omega
  refine⟨K+l.length+1+1,?_⟩;unfold Qat.f;rw[show Qar.f=some true from rfl,Option.bind_some,if_pos rfl,Qat.j0];rw[if_neg qq_20,Qxd];have h1:=b_l0 a l (nOf a:Int) h6 l.length 0 K 0 (by omega) (by omega);refine Eq.trans h1 ?_;rw[Qwp a l hb (by omega) K (by omega),Option.bind_some,List.drop_zero];have h2:=b_l1 l hb h6 (nOf a) hn ((0+Qxp l:Nat):Int) (allF a l) (by omega) (by omega) (allF a l).length 0 (K-(allF a l).length-1) 0 0 (by omega) (by rw[List.drop_zero];exact Qxt a l (by omega)) (by omega) (by omega) (by omega);rw[show K-(allF a l).length-1+(allF a l).length+1=K by omega]at h2;exact h2
 ·refine⟨K+1,?_⟩;unfold Qat.f;rw[show Qar.f=some true from rfl,Option.bind_some,if_pos rfl,Qat.j0];rw[if_pos qq_20,show Qar.f=some true from rfl];rfl
end Go.Proofs.YtnnofopfbeklbaaGreat.Pure
end
