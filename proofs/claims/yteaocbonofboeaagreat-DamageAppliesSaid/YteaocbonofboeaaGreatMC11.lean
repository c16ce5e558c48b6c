/- Merged texts. -/
import Derived.Test.YteaocbonofboeaaGreatMC02
import Derived.Test.YteaocbonofboeaaGreatMC07
import Derived.Test.YteaocbonofboeaaGreatMC03
import Derived.Test.YteaocbonofboeaaGreatMC09
import Derived.Test.YteaocbonofboeaaGreatMC04
import Derived.Test.YteaocbonofboeaaGreatMC10
set_option linter.unusedVariables false
set_option linter.unusedSimpArgs false
set_option maxHeartbeats 8000000
set_option maxRecDepth 100000
section
namespace Go.Proofs.YteaocbonofboeaaGreat.C
open Go.RowKit Go.Proofs.YteaocbonofboeaaGreatW.PrintWords Go.Proofs.YteaocbonofboeaaGreatW.PrintLast Go.Proofs.YteaocbonofboeaaGreatW.PrintMore
attribute [local go_sem] Qhx Qhy Qhz Qia Qib Qic Qid Qie
def Qaq.l0:Nat→List Int→List (S158)→Int→Int→List (S158)→Int→Option (List Int)
 | 0,_,_,_,_,_,_=>none
 | k+1,x5,x11,x12,x13,x359000,x359001=>if x13<x12 then(if 0≤x13 then(if x13<(x11.length:Int)then(if((Qjc x11 x13).f0)<(IntKind.u64.wrap ((x5.length:Int)))then(if 0≤((Qjc x11 x13).f0)then(if((Qjc x11 x13).f0)<(x5.length:Int)then(Qaq.l0 k (x5.set (((Qjc x11 x13).f0):Int).toNat ((Qjc x11 x13).f1)) x11 x12 (wrap64 (x13+1)) x359000 x359001)else(none))else(none))else(Qaq.l0 k x5 x11 x12 (wrap64 (x13+1)) x359000 x359001))else(none))else(none))else((Qar.f x359000 x359001 (x5.length:Int)).bind fun t365=>(if 0≤t365 then(if t365≤(x5.length:Int)then(some (x5.take (t365:Int).toNat))else(none))else(none)))
def Qaq.f(k:Nat)(l0:List Int)(l1_0:List (S158))(a1_1:Int):Option (List Int):=(Qad.f l0).bind fun t359=>(Qaq.l0 k t359 l1_0 (l1_0.length:Int) 0 l1_0 a1_1)
theorem Qaq.calls (k:Nat) (A0:Option Addr) (c0:Nat) (l0:List Int) (D:Option Addr) (s:Nat) (a:List (S158)) (l:Int) (r:List Int) (w:World) (hr0:Kd.C (Kd.int .u8) w A0 l0.length l0) (hc0:l0.length≤c0) (hr1_0:Kd.C k158 w D a.length a) (hc1_0:a.length≤s) (h:Qaq.f k l0 a l=some r) :
  Calls Tryz.prog 39 #[.slice A0 l0.length c0,.agg #[.slice D a.length s,.int .i64 l]] w fun e w'=>∃av:Value,e=.returned (av)∧Kd.R (Kd.int .u8) 5 w' w.heap.size (fun _=>True) av r∧Below w.heap.size w w':=by
 have hu81:=Tryz.underlying81;have hu158:=Tryz.underlying158;have aM:=QA hr0;have aN:=QA hc0;clear hr0 hc0;have M:=QA hr1_0;have am:=QA hc1_0;clear hr1_0 hc1_0;have HB:=QA (Below.refl w.heap.size w);have H:((Qad.f l0).bind fun O=>(Qaq.l0 k O a (a.length:Int) 0 a l))=some r:=h;clear h;replace H:=Option.bind_eq_some_iff.mp H;obtain⟨O,aw,H⟩:=H;have A3:=QA aw;clear aw;have H':=QA H;clear H
 go_enter Tryz.func39,Tryz.ntmps39
 go_wp2_with (first |((with_reducible refine Qfn (N:=3) rfl ?_);refine qq_e 3 #[.slice D a.length s,.int .i64 l] 81 ?_;intro d hg w4 hbox hb;have n_:=qn4 (Qfd qq_b hb) (hbox) (qq_s hg:w.heap.size≤d) (qq_s hg:w.heap.size≤d);clear HB;obtain⟨HB,c,aS,aT⟩:=n_;clear hb hbox hg) |((with_reducible refine Qif (f:=72) rfl ?_);refine Qgi (some 9) rfl rfl Tryz.func72 qq_2 rfl #[.slice A0 l0.length c0] rfl qq_0 ?_;(with_reducible refine(Qad.calls _ _ l0 O _ ?side1 ?side2 A3.out).mono ?_);(case side1=>repeat(first|exact(Kd.C_below aM.out HB.out) |(with_reducible refine Kd.C_alloc ?_ _) |(with_reducible refine Kd.C_drewN ?_ _) |(with_reducible refine Kd.C_drew ?_)));(case side2=>exact aN.out);rintro e w5 ⟨ab,rfl,ax,hb⟩;refine⟨_,rfl,?_⟩;have n_:=qn3 (Kd.R_lower ax (Qfc qq_b)) (Qed (g:=d) (o:=.cells #[.slice D a.length s,.int .i64 l] 81 (0,0)) qq_1 hb) (Qfd qq_b hb);clear c HB;obtain⟨an,c,HB⟩:=n_;(try clear hb);(try clear hb2);(try clear hk);(try clear hi);(try clear ax);obtain⟨ac,ad⟩:=qc2 c.out;have aC:=Qdp c.out))
 go_loopg [13] k (fun kq aO w'=>∃(q:List Int) (b:Int),aO=.int .i64 b∧Aside0 (Qaq.l0 kq q a (a.length:Int) b a l=some r)∧Aside0 (kq≤k)∧Aside0 (Kd.R (Kd.int .u8) 5 w' w.heap.size (fun _=>True) ab q)∧Aside0 (w'.heap[d]? = some (.cells #[(.slice D a.length s),.int .i64 l] 81 (0,0)))∧Aside0 (Below w.heap.size w w'))
 case atStart=>exact⟨(O),(0),qq_4,H',⟨Nat.le_refl _⟩,⟨by(with_reducible repeat(first|apply Kd.R_alloc|apply Kd.R_drewN|apply Kd.R_drew));exact an.out⟩,⟨by(with_reducible repeat(first|apply Qec|apply Qeb|apply Qea));exact c.out⟩,⟨qq_b⟩⟩
 case round =>
  clear H'
  try clear ac
  try clear ad
  try clear aC
  obtain⟨q,b,rfl,HA,HK1,HO_5,c,HB⟩:=hrel
  cases gk with
  | zero=>exact absurd HA.out (by simp[Qaq.l0])
  | succ k1 =>
   have H:=HA.out;clear HA;simp only[Qaq.l0]at H
   by_cases c7:b<(a.length:Int)
   ·rw [if_pos c7]at H;have aD:=decide_eq_true c7;clear c7
    by_cases c8:0≤b
    ·rw [if_pos c8]at H;have bj:=decide_eq_true c8;clear c8
     by_cases c9:b<(a.length:Int)
     ·rw [if_pos c9]at H;have bk:=decide_eq_true c9;clear c9
      by_cases c10:((Qjc a b).f0)<(IntKind.u64.wrap ((q.length:Int)))
      ·rw[if_pos c10]at H;have ao:=decide_eq_true c10;clear c10
       by_cases Y:0≤((Qjc a b).f0)
       ·rw[if_pos Y]at H;have aU:=decide_eq_true Y;clear Y
        by_cases Z:((Qjc a b).f0)<(q.length:Int)
        ·rw[if_pos Z]at H;have aV:=decide_eq_true Z;clear Z;obtain⟨W,I⟩:∃y_:List Int,y_=(q.set (((Qjc a b).f0):Int).toNat ((Qjc a b).f1)):=⟨_,rfl⟩;replace H:(Qaq.l0 k1 W a (a.length:Int) (wrap64 (b+1)) a l)=some r:=by first |(rw[I];with_reducible exact H) |(have K:=(Option.bind_some _ _).symm.trans H;rw[I];with_reducible exact K) |(have K:=(Option.bind_some _ _).symm.trans H;with_reducible exact K)|with_reducible exact H |(rw[I];exact H)|exact H
         have ap:=QA I;clear I;have H':=QA H;clear H;have E:0≤(b:Int):=of_decide_eq_true qq_6;have G:b<(a.length:Int):=of_decide_eq_true qq_6;obtain⟨x,X,y,z⟩:=Qjd M.out b E G
         cases X
         replace y:=qq_h HB.out y;replace z:=qq_h HB.out z;replace E:=eq_true E;replace G:=eq_true G
         go_wp2_with (first |((with_reducible refine Qfn (N:=7) rfl ?_);refine qq_e 7 #[.int .u64 0,.int .u8 0] 158 ?_;intro j hg aP hbox hb;have n_:=qn8 (Kd.R_below qq_7 hb) (Qed (g:=d) (o:=.cells #[.slice (some x) a.length s,.int .i64 l] 81 (0,0)) qq_1 hb) (Qfd qq_b hb) (hbox) (qq_s hg:w.heap.size≤j) (qq_s hg:w.heap.size≤j) ((by rw[hg];exact Nat.ne_of_lt (Qdn (g:=d) (o:=.cells #[.slice (some x) a.length s,.int .i64 l] 81 (0,0)) qq_1):d≠j)) ((by rw[hg];exact Nat.ne_of_gt (Qdn (g:=d) (o:=.cells #[.slice (some x) a.length s,.int .i64 l] 81 (0,0)) qq_1):j≠d));clear HO_5 c HB;obtain⟨HO_5,c,HB,n,aq,ar,u,A⟩:=n_;clear hb hbox hg;have aW:=A.out;have aX:=u.out;obtain⟨aE,aF⟩:=qc2 n.out;have aY:=Qdp n.out) |((with_reducible refine Qfo (t:=158) (p:=7) rfl ?_);refine Qfm (t:=158) (p:=7) (v:=?vo_w17) (w1:=((aP.setCell ⟨j,0,none⟩ (.int .u64 ((Qjc a b).f0))).setCell ⟨j,1,none⟩ (.int .u8 ((Qjc a b).f1)))) ?hg ?ho ?hn ?hr ?_;(case ho=>rfl);(case hg=>rfl);(case hn=>rfl);(case hr=>exact qq_10);intro L hw;have ay:Aside0 (Kd.R (Kd.int .u8) 5 L w.heap.size (fun _=>True) ab q):=⟨(by rw[hw];exact(by(with_reducible repeat(first|apply Kd.R_alloc|apply Kd.R_drewN|apply Kd.R_drew));exact Kd.R_mono (Kd.R_far (p:=⟨j,1,none⟩) (Kd.R_far (p:=⟨j,0,none⟩) (Kd.R_types HO_5.out n.out (by decide)) (fun _ hk=>hk.2) (.int .u64 ((Qjc a b).f0))) (fun _ hk=>hk.2) (.int .u8 ((Qjc a b).f1))) (fun _ hk=>trivial)))⟩;have az:Aside0 (L.heap[d]? = some (.cells #[.slice (some x) a.length s,.int .i64 l] 81 (0,0))):=⟨(by rw[hw];exact qq_8)⟩;have aA:Aside0 (L.heap[j]? = some (.cells #[.int .u64 ((Qjc a b).f0),.int .u8 ((Qjc a b).f1)] 158 (0,0))):=⟨(by rw[hw];exact qq_x)⟩;have aB:Aside0 (Below w.heap.size w L):=⟨(by rw[hw];exact qq_b)⟩;clear hw HO_5 c n HB;have HO_5:=ay;have c:=az;have n:=aA;have HB:=aB;clear ay az aA aB;obtain⟨aG,aH⟩:=qc2 n.out;have aZ:=Qdp n.out;obtain⟨Ao19,co19,eo19⟩:=Kd.R_slice HO_5.out;subst eo19;have ae:0≤(((Qjc a b).f0):Int):=of_decide_eq_true qq_6;have af:(((Qjc a b).f0):Int)<((q.length:Int):Int):=of_decide_eq_true qq_6;obtain⟨go13,co13,eo13,ag,gl13,cl13,HG13⟩:=Kd.R_form HO_5.out (by omega);(first|cases eo13 |(injection eo13 with ea_ en_ ec_;(first|subst ea_ |(injection ea_ with ea_;subst ea_));subst ec_;clear en_));have GB13:=QA ag;have GG13:=QA HG13;clear ag gl13 HG13;obtain⟨aQ,hf13_0⟩:=Kd.R_celln 0 HO_5.out (((Qjc a b).f0):Int) ae af;replace ae:=eq_true ae;replace af:=eq_true af;obtain⟨ba,hz20_⟩:=Kd.R_celln 0 HO_5.out (((Qjc a b).f0):Int) (of_decide_eq_true qq_6) (of_decide_eq_true qq_6);have HP20:=Kd.R_putg HO_5.out (((Qjc a b).f0):Int) ((Qjc a b).f1)) |((with_reducible refine Qfo (t:=5) (p:=28) rfl ?_);refine Qfm (t:=5) (p:=28) (v:=?vo_w21) (w1:=(L.setCell ⟨go13,(((Qjc a b).f0):Int).toNat,none⟩ (.int .u8 ((Qjc a b).f1)))) ?hg ?ho ?hn ?hr ?_;(case ho=>rfl);(case hg=>rfl);(case hn=>rfl);(case hr=>exact qq_10);intro ah hw;have hg:L.grownBy ah (some go13):=(by rw[hw];exact HP20.2);have hp_:Kd.R (Kd.int .u8) 5 ah w.heap.size (fun _=>True) (.slice (some ⟨go13,0,none⟩) q.length co19) W:=(by rw[hw,ap.out];exact HP20.1);clear HP20;have n_:=qn4 (hp_) (Qdq (g:=d) (o:=.cells #[.slice (some x) a.length s,.int .i64 l] 81 (0,0)) qq_1 hg (Kd.R_ne HO_5.out c.out (by decide))) (Qdq (g:=j) (o:=.cells #[.int .u64 ((Qjc a b).f0),.int .u8 ((Qjc a b).f1)] 158 (0,0)) qq_1 hg (Kd.R_ne HO_5.out n.out (by decide))) ((by rw[hw];exact Qff (HB.out) GB13.out:Below w.heap.size w ah));clear HO_5 c n HB;obtain⟨HO_5,c,n,HB⟩:=n_;clear hg hw hp_))
         go_roundg k1
         case measure=>have:=HK1.out;omega
         case rel=>exact⟨(W),(wrap64 (b+1)),qq_4,H',⟨by have:=HK1.out;omega⟩,⟨by(with_reducible repeat(first|apply Kd.R_alloc|apply Kd.R_drewN|apply Kd.R_drew));exact HO_5.out⟩,⟨by(with_reducible repeat(first|apply Qec|apply Qeb|apply Qea));exact c.out⟩,⟨qq_b⟩⟩
        ·rw[if_neg Z]at H;exact absurd H (by simp)
       ·rw[if_neg Y]at H;exact absurd H (by simp)
      ·rw[if_neg c10]at H;have ao:=decide_eq_false c10;clear c10;have H':=QA H;clear H;have E:0≤(b:Int):=of_decide_eq_true qq_6;have G:b<(a.length:Int):=of_decide_eq_true qq_6;obtain⟨x,X,y,z⟩:=Qjd M.out b E G
       cases X
       replace y:=qq_h HB.out y;replace z:=qq_h HB.out z;replace E:=eq_true E;replace G:=eq_true G
       go_wp2_with (first |((with_reducible refine Qfn (N:=7) rfl ?_);refine qq_e 7 #[.int .u64 0,.int .u8 0] 158 ?_;intro j hg bn hbox hb;have n_:=qn8 (Kd.R_below qq_7 hb) (Qed (g:=d) (o:=.cells #[.slice (some x) a.length s,.int .i64 l] 81 (0,0)) qq_1 hb) (Qfd qq_b hb) (hbox) (qq_s hg:w.heap.size≤j) (qq_s hg:w.heap.size≤j) ((by rw[hg];exact Nat.ne_of_lt (Qdn (g:=d) (o:=.cells #[.slice (some x) a.length s,.int .i64 l] 81 (0,0)) qq_1):d≠j)) ((by rw[hg];exact Nat.ne_of_gt (Qdn (g:=d) (o:=.cells #[.slice (some x) a.length s,.int .i64 l] 81 (0,0)) qq_1):j≠d));clear HO_5 c HB;obtain⟨HO_5,c,HB,n,aq,ar,u,A⟩:=n_;clear hb hbox hg;have bb:=A.out;have bc:=u.out;obtain⟨aI,aJ⟩:=qc2 n.out;have bd:=Qdp n.out;obtain⟨Ao25,co25,eo25⟩:=Kd.R_slice HO_5.out;subst eo25))
       go_roundg k1
       case measure=>have:=HK1.out;omega
       case rel=>exact⟨(q),(wrap64 (b+1)),qq_4,H',⟨by have:=HK1.out;omega⟩,⟨by(with_reducible repeat(first|apply Kd.R_alloc|apply Kd.R_drewN|apply Kd.R_drew));exact Kd.R_mono (Kd.R_far (p:=⟨j,1,none⟩) (Kd.R_far (p:=⟨j,0,none⟩) (Kd.R_types HO_5.out n.out (by decide)) (fun _ hk=>hk.2) (.int .u64 ((Qjc a b).f0))) (fun _ hk=>hk.2) (.int .u8 ((Qjc a b).f1))) (fun _ hk=>trivial)⟩,⟨by(with_reducible repeat(first|apply Qec|apply Qeb|apply Qea));refine Qdm ?_ u.out _;(with_reducible repeat(first|apply Qec|apply Qeb|apply Qea));refine Qdm ?_ u.out _;(with_reducible repeat(first|apply Qec|apply Qeb|apply Qea));exact c.out⟩,⟨qq_b⟩⟩
     ·rw[if_neg c9]at H;exact absurd H (by simp)
    ·rw[if_neg c8]at H;exact absurd H (by simp)
   ·rw[if_neg c7]at H;have aD:=decide_eq_false c7;clear c7;replace H:=Option.bind_eq_some_iff.mp H;obtain⟨B,ai,H⟩:=H;have aR:=QA ai;clear ai
    by_cases T:0≤B
    ·rw[if_pos T]at H;have be:=eq_true T;have bf:=decide_eq_true T;clear T
     by_cases U:B≤(q.length:Int)
     ·rw[if_pos U]at H;have bg:=eq_true U;have bh:=decide_eq_true U;clear U;obtain⟨aj,J⟩:∃y_:List Int,y_=(q.take (B:Int).toNat):=⟨_,rfl⟩;replace H:(some aj)=some r:=by first |(rw[J];with_reducible exact H) |(have K:=(Option.bind_some _ _).symm.trans H;rw[J];with_reducible exact K) |(have K:=(Option.bind_some _ _).symm.trans H;with_reducible exact K)|with_reducible exact H |(rw[J];exact H)|exact H
      have aa:=QA J;clear J;obtain rfl:=Option.some.inj H;obtain⟨aK,aL⟩:=qc2 c.out;have bi:=Qdp c.out;obtain⟨Ao30,co30,eo30⟩:=Kd.R_slice HO_5.out;subst eo30
      go_wp2_with (first |((with_reducible refine Qif (f:=83) rfl ?_);refine Qgi (some 34) rfl rfl Tryz.func83 qq_2 rfl #[.agg #[.slice D a.length s,.int .i64 l],.int .i64 (q.length:Int)] rfl qq_0 ?_;(with_reducible refine(Qar.calls _ _ a l (q.length:Int) B _ ?side1 ?side2 aR.out).mono ?_);(case side1=>repeat(first|exact(Kd.C_below M.out HB.out) |(with_reducible refine Kd.C_alloc ?_ _) |(with_reducible refine Kd.C_drewN ?_ _) |(with_reducible refine Kd.C_drew ?_)));(case side2=>exact am.out);rintro e bo ⟨rfl,hb⟩;refine⟨_,rfl,?_⟩;have n_:=qn3 (Kd.R_below qq_7 hb) (Qed (g:=d) (o:=.cells #[.slice D a.length s,.int .i64 l] 81 (0,0)) qq_1 hb) (Qfd qq_b hb);clear HO_5 c HB;obtain⟨HO_5,c,HB⟩:=n_;(try clear hb);(try clear hb2);(try clear hk);(try clear hi);have ak:(B:Int)≤((q.length:Int):Int):=of_decide_eq_true qq_6;obtain⟨bl,hi032,_,hsz32,_⟩:=info_parts Qim;have hcut32:=Qeo (P:=Tryz.prog) 40 5 .i64 Tryz.underlying40 hi032 Ao30 q.length co30 B (of_decide_eq_true qq_6) ak (Kd.R_reads' HO_5.out).2.1;have hr32:=Kd.R_take (m:=(B:Int).toNat) HO_5.out (by omega);have al:aj.length=(B:Int).toNat:=(by rw[aa.out,List.length_take];omega);rw[← aa.out]at hr32;rw[← al]at hr32 hcut32;clear al hi032 hsz32 HO_5;have au:=QA hr32;clear hr32;replace ak:=eq_true ak))
      go_ret
      exact⟨_,by first|rfl |(simp[Qik,Qil]<;>rfl) |(simp[*,Qik,Qil]<;>rfl),by(with_reducible repeat(first|apply Kd.R_alloc|apply Kd.R_drewN|apply Kd.R_drew));exact au.out,qq_b⟩
     ·rw[if_neg U]at H;exact absurd H (by simp)
    ·rw[if_neg T]at H;exact absurd H (by simp)
mutual
def Qbd.j0:Nat→ByteArray→Int→Int→Option (Int)
 | 0,_,_,_=>none
 | k+1,x1,x5,x6=>Qbd.l0 k x1 (IntKind.u64.wrap (x6+x5))
def Qbd.l0:Nat→ByteArray→Int→Option (Int)
 | 0,_,_=>none
 | k+1,x1,x6=>if(x1.size:Int)≥8 then(if 0≤8 then(if 8≤(x1.size:Int)then((Qba.f k (x1.extract 0 8)).bind fun t136=>((Qbf.f k 0 t136).bind fun t137=>((Qbh.f k (Go.bits .xor .u64 x6 t137) 27).bind fun t138=>(Qbd.l0 k (x1.extract 8 x1.size) (IntKind.u64.wrap ((IntKind.u64.wrap (t138*11400714785074694791))+9650029242287828579))))))else(none))else(none))else(Qbd.l1 k x1 x6)
def Qbd.l1:Nat→ByteArray→Int→Option (Int)
 | 0,_,_=>none
 | k+1,x1,x6=>if(x1.size:Int)≥4 then(if 0≤4 then(if 4≤(x1.size:Int)then((Qba.f k (x1.extract 0 4)).bind fun t139=>((Qbh.f k (Go.bits .xor .u64 x6 (IntKind.u64.wrap (t139*11400714785074694791))) 23).bind fun t140=>(Qbd.l1 k (x1.extract 4 x1.size) (IntKind.u64.wrap ((IntKind.u64.wrap (t140*14029467366897019727))+1609587929392839161)))))else(none))else(none))else(Qbd.l2 k x1 x6 0)
def Qbd.l2:Nat→ByteArray→Int→Int→Option (Int)
 | 0,_,_,_=>none
 | k+1,x1,x6,x8=>if x8<(x1.size:Int)then(if 0≤x8 then((Qbh.f k (Go.bits .xor .u64 x6 (IntKind.u64.wrap ((IntKind.u64.wrap (bt x1 x8))*2870177450012600261))) 11).bind fun t141=>(Qbd.l2 k x1 (IntKind.u64.wrap (t141*11400714785074694791)) (wrap64 (x8+1))))else(none))else((Qbg.f k x6 33).bind fun t142=>((Qbg.f k (IntKind.u64.wrap (t142*14029467366897019727)) 29).bind fun t143=>((Qbg.f k (IntKind.u64.wrap (t143*1609587929392839161)) 32).bind fun t144=>(some t144))))
end
def Qbd.f(k:Nat)(a0:Int)(a1:ByteArray):Option (Int):=if(a1.size:Int)≥32 then((Qbe.f a0 a1).bind fun bt134=>(Qbd.j0 k bt134.2 (IntKind.u64.wrap ((a1.size:Int))) bt134.1))else(Qbd.j0 k a1 (IntKind.u64.wrap ((a1.size:Int))) (IntKind.u64.wrap (a0+2870177450012600261)))
theorem Qbd.calls (k:Nat) (a0:Int) (a1:ByteArray) (r:Int) (w:World) (h:Qbd.f k a0 a1=some r) :
  Calls Tryz.prog 134 #[.int .u64 a0,.string a1] w fun e w'=>e=.returned (.int .u64 r)∧Below w.heap.size w w':=by
 have HB:=QA (Below.refl w.heap.size w);have H:(if(a1.size:Int)≥32 then((Qbe.f a0 a1).bind fun bt134=>(Qbd.j0 k bt134.2 (IntKind.u64.wrap ((a1.size:Int))) bt134.1))else(Qbd.j0 k a1 (IntKind.u64.wrap ((a1.size:Int))) (IntKind.u64.wrap (a0+2870177450012600261))))=some r:=h;clear h;have J:=QA H;clear H
 go_enter Tryz.func134,Tryz.ntmps134
 go_upto_if 17 with(fail)
 go_cut [1,6] (fun v1 v6 wc=>∃(kq:Nat) (a:ByteArray) (c:Int),v1=.string a∧v6=.int .u64 c∧Aside0 (Qbd.j0 kq a (IntKind.u64.wrap ((a1.size:Int))) c=some r)∧Aside0 (kq≤k)∧Aside0 (Below w.heap.size w wc))
 case first =>
  have H:=J.out;clear J
  by_cases c4:(a1.size:Int)≥32
  ·rw[if_pos c4]at H;have g:decide (32≤(a1.size:Int))=true:=decide_eq_true c4;have m:decide (32≤a1.size)=true:=decide_eq_true (by omega);clear c4
   (first|rw[g] |(simp only[Qgk,Qgl];rw[g])|skip)
   replace H:=Option.bind_eq_some_iff.mp H;obtain⟨⟨s,t⟩,al,H⟩:=H;replace H:(Qbd.j0 k t (IntKind.u64.wrap ((a1.size:Int))) s)=some r:=H;have A5:=QA al;clear al;have H':=QA H;clear H
   go_wp2_with (first |((with_reducible refine Qif (f:=190) rfl ?_);refine Qgi (some 21) rfl rfl Tryz.func190 qq_2 rfl #[.int .u64 a0,.string a1] rfl qq_0 ?_;(with_reducible refine(Qbe.calls a0 a1 s t _ A5.out).mono ?_);rintro e w6 ⟨rfl,hb⟩;refine⟨_,rfl,?_⟩;have n_:=qn1 (Qfd qq_b hb);clear HB;have HB:=n_;clear n_;(try clear hb);(try clear hb2);(try clear hk);(try clear hi)))
   go_meet
   case rel=>exact⟨_,(t),(s),qq_4,qq_4,H',⟨by first|omega|exact Nat.le_refl _⟩,⟨qq_b⟩⟩
  ·rw[if_neg c4]at H;have g:decide (32≤(a1.size:Int))=false:=decide_eq_false c4;have m:decide (32≤a1.size)=false:=decide_eq_false (by omega);clear c4
   (first|rw[g] |(simp only[Qgk,Qgl];rw[g])|skip)
   have H':=QA H;clear H;go_wp2
   go_meet
   case rel=>exact⟨_,(a1),(IntKind.u64.wrap (a0+2870177450012600261)),qq_4,qq_4,H',⟨by first|omega|exact Nat.le_refl _⟩,⟨qq_b⟩⟩
 case rest =>
  clear J
  try clear c4
  try clear g
  try clear m
  obtain⟨kq,a,c,rfl,rfl,HA,HJ2,HB⟩:=hcut
  cases kq with
  | zero=>exact absurd HA.out (by simp[Qbd.j0])
  | succ kj2 =>
   have H:=HA.out;clear HA;simp only[Qbd.j0]at H;have H':=QA H;clear H;go_wp2
   go_loopg [1,6] kj2 (fun kq v1 v6 w'=>∃(a:ByteArray) (c:Int),v1=.string a∧v6=.int .u64 c∧Aside0 (Qbd.l0 kq a c=some r)∧Aside0 (kq≤kj2)∧Aside0 (Below w.heap.size w w'))
   case atStart=>exact⟨(a),(IntKind.u64.wrap (c+(IntKind.u64.wrap ((a1.size:Int))))),qq_4,qq_4,H',⟨Nat.le_refl _⟩,⟨qq_b⟩⟩
   case round =>
    clear H'
    try clear c4
    try clear g
    try clear m
    obtain⟨a,c,rfl,rfl,HA,HK2,HB⟩:=hrel
    cases gk with
    | zero=>exact absurd HA.out (by simp[Qbd.l0])
    | succ k2 =>
     have H:=HA.out;clear HA;simp only[Qbd.l0]at H
     by_cases c7:(a.size:Int)≥8
     ·rw[if_pos c7]at H;have u:decide (8≤(a.size:Int))=true:=decide_eq_true c7;have v:decide (8≤a.size)=true:=decide_eq_true (by omega);clear c7
      by_cases c8:0≤8
      ·rw[if_pos c8]at H;have K:=eq_true c8;have L:=decide_eq_true c8;clear c8
       by_cases c9:8≤(a.size:Int)
       ·rw[if_pos c9]at H;have M:=eq_true c9;have O:=decide_eq_true c9;clear c9;replace H:=Option.bind_eq_some_iff.mp H;obtain⟨x,P,H⟩:=H;have ap:=QA P;clear P;replace H:=Option.bind_eq_some_iff.mp H;obtain⟨y,T,H⟩:=H;have aq:=QA T;clear T;replace H:=Option.bind_eq_some_iff.mp H;obtain⟨U,W,H⟩:=H;have ar:=QA W;clear W;have D:=eq_true (of_decide_eq_true qq_6:8≤(a.size:Int));have H':=QA H;clear H
        go_wp2_with (first |((with_reducible refine Qif (f:=186) rfl ?_);refine Qgi (some 33) rfl rfl Tryz.func186 qq_2 rfl #[.string (a.extract 0 8)] rfl qq_0 ?_;(with_reducible refine(Qba.calls k2 (a.extract 0 8) x _ ap.out).mono ?_);rintro e w' ⟨rfl,⟨nd,rfl⟩⟩;refine⟨_,rfl,?_⟩) |((with_reducible refine Qif (f:=191) rfl ?_);refine Qgi (some 34) rfl rfl Tryz.func191 qq_2 rfl #[.int .u64 0,.int .u64 x] rfl qq_0 ?_;(with_reducible refine(Qbf.calls k2 0 x y _ aq.out).mono ?_);rintro e w' ⟨rfl,⟨nd,rfl⟩⟩;refine⟨_,rfl,?_⟩) |((with_reducible refine Qif (f:=192) rfl ?_);refine Qgi (some 37) rfl rfl Tryz.func192 qq_2 rfl #[.int .u64 (Go.bits .xor .u64 c y),.int .i64 27] rfl qq_0 ?_;(with_reducible refine(Qbh.calls k2 (Go.bits .xor .u64 c y) 27 U _ ar.out).mono ?_);rintro e w' ⟨rfl,⟨nd,rfl⟩⟩;refine⟨_,rfl,?_⟩))
        go_roundg k2
        case measure=>have:=HJ2.out;have:=HK2.out;omega
        case rel=>exact⟨(a.extract 8 a.size),(IntKind.u64.wrap ((IntKind.u64.wrap (U*11400714785074694791))+9650029242287828579)),qq_4,qq_4,H',⟨by have:=HJ2.out;have:=HK2.out;omega⟩,⟨qq_b⟩⟩
       ·rw[if_neg c9]at H;exact absurd H (by simp)
      ·rw[if_neg c8]at H;exact absurd H (by simp)
     ·rw [if_neg c7]at H;have u:decide (8≤(a.size:Int))=false:=decide_eq_false c7;have v:decide (8≤a.size)=false:=decide_eq_false (by omega);clear c7;have H':=QA H;clear H;go_wp2
      go_loopg [1,6] k2 (fun kq v1 v6 w'=>∃(b:ByteArray) (l:Int),v1=.string b∧v6=.int .u64 l∧Aside0 (Qbd.l1 kq b l=some r)∧Aside0 (kq≤k2)∧Aside0 (Below w.heap.size w w'))
      case atStart=>exact⟨(a),(c),qq_4,qq_4,H',⟨Nat.le_refl _⟩,⟨qq_b⟩⟩
      case round =>
       clear H'
       try clear c4
       try clear g
       try clear m
       try clear c7
       try clear u
       try clear v
       try clear c8
       try clear K
       try clear L
       try clear c9
       try clear M
       try clear O
       try clear D
       obtain⟨b,l,rfl,rfl,HA,HK3,HB⟩:=hrel
       cases gk with
       | zero=>exact absurd HA.out (by simp[Qbd.l1])
       | succ k3 =>
        have H:=HA.out;clear HA;simp only[Qbd.l1]at H
        by_cases n:(b.size:Int)≥4
        ·rw[if_pos n]at H;have E:decide (4≤(b.size:Int))=true:=decide_eq_true n;have G:decide (4≤b.size)=true:=decide_eq_true (by omega);clear n
         by_cases o:0≤4
         ·rw[if_pos o]at H;have af:=eq_true o;have ag:=decide_eq_true o;clear o
          by_cases p:4≤(b.size:Int)
          ·rw[if_pos p]at H;have ah:=eq_true p;have ai:=decide_eq_true p;clear p;replace H:=Option.bind_eq_some_iff.mp H;obtain⟨z,X,H⟩:=H;have au:=QA X;clear X;replace H:=Option.bind_eq_some_iff.mp H;obtain⟨Y,Z,H⟩:=H;have av:=QA Z;clear Z;have aj:=eq_true (of_decide_eq_true qq_6:4≤(b.size:Int));have H':=QA H;clear H
           go_wp2_with (first |((with_reducible refine Qif (f:=186) rfl ?_);refine Qgi (some 47) rfl rfl Tryz.func186 qq_2 rfl #[.string (b.extract 0 4)] rfl qq_0 ?_;(with_reducible refine(Qba.calls k3 (b.extract 0 4) z _ au.out).mono ?_);rintro e w' ⟨rfl,⟨nd,rfl⟩⟩;refine⟨_,rfl,?_⟩) |((with_reducible refine Qif (f:=192) rfl ?_);refine Qgi (some 52) rfl rfl Tryz.func192 qq_2 rfl #[.int .u64 (Go.bits .xor .u64 l (IntKind.u64.wrap (z*11400714785074694791))),.int .i64 23] rfl qq_0 ?_;(with_reducible refine(Qbh.calls k3 (Go.bits .xor .u64 l (IntKind.u64.wrap (z*11400714785074694791))) 23 Y _ av.out).mono ?_);rintro e w' ⟨rfl,⟨nd,rfl⟩⟩;refine⟨_,rfl,?_⟩))
           go_roundg k3
           case measure=>have:=HJ2.out;have:=HK2.out;have:=HK3.out;omega
           case rel=>exact⟨(b.extract 4 b.size),(IntKind.u64.wrap ((IntKind.u64.wrap (Y*14029467366897019727))+1609587929392839161)),qq_4,qq_4,H',⟨by have:=HJ2.out;have:=HK2.out;have:=HK3.out;omega⟩,⟨qq_b⟩⟩
          ·rw[if_neg p]at H;exact absurd H (by simp)
         ·rw[if_neg o]at H;exact absurd H (by simp)
        ·rw [if_neg n]at H;have E:decide (4≤(b.size:Int))=false:=decide_eq_false n;have G:decide (4≤b.size)=false:=decide_eq_false (by omega);clear n;have H':=QA H;clear H;go_wp2
         go_loopg [6,8] k3 (fun kq v6 v8 w'=>∃(j:Int) (d:Int),v6=.int .u64 j∧v8=.int .i64 d∧Aside0 (Qbd.l2 kq b j d=some r)∧Aside0 (kq≤k3)∧Aside0 (Below w.heap.size w w'))
         case atStart=>exact⟨(l),(0),qq_4,qq_4,H',⟨Nat.le_refl _⟩,⟨qq_b⟩⟩
         case round =>
          clear H'
          try clear c4
          try clear g
          try clear m
          try clear c7
          try clear u
          try clear v
          try clear c8
          try clear K
          try clear L
          try clear c9
          try clear M
          try clear O
          try clear D
          try clear n
          try clear E
          try clear G
          try clear o
          try clear af
          try clear ag
          try clear p
          try clear ah
          try clear ai
          try clear aj
          obtain⟨j,d,rfl,rfl,HA,HK4,HB⟩:=hrel
          cases gk with
          | zero=>exact absurd HA.out (by simp[Qbd.l2])
          | succ k4 =>
           have H:=HA.out;clear HA;simp only[Qbd.l2]at H
           by_cases q:d<(b.size:Int)
           ·rw[if_pos q]at H;have ak:=decide_eq_true q;clear q
            by_cases I:0≤d
            ·rw[if_pos I]at H;have aA:=decide_eq_true I;clear I;replace H:=Option.bind_eq_some_iff.mp H;obtain⟨aa,ab,H⟩:=H;have aw:=QA ab;clear ab;have H':=QA H;clear H;have am:0≤(d:Int):=of_decide_eq_true qq_6;have an:d<(b.size:Int):=of_decide_eq_true qq_6;have aB:=Qco b d;replace am:=eq_true am;replace an:=eq_true an
             go_wp2_with (first |((with_reducible refine Qif (f:=192) rfl ?_);refine Qgi (some 71) rfl rfl Tryz.func192 qq_2 rfl #[.int .u64 (Go.bits .xor .u64 j (IntKind.u64.wrap ((IntKind.u64.wrap (bt b d))*2870177450012600261))),.int .i64 11] rfl qq_0 ?_;(with_reducible refine(Qbh.calls k4 (Go.bits .xor .u64 j (IntKind.u64.wrap ((IntKind.u64.wrap (bt b d))*2870177450012600261))) 11 aa _ aw.out).mono ?_);rintro e w' ⟨rfl,⟨nd,rfl⟩⟩;refine⟨_,rfl,?_⟩))
             go_roundg k4
             case measure=>have:=HJ2.out;have:=HK2.out;have:=HK3.out;have:=HK4.out;omega
             case rel=>exact⟨(IntKind.u64.wrap (aa*11400714785074694791)),(wrap64 (d+1)),qq_4,qq_4,H',⟨by have:=HJ2.out;have:=HK2.out;have:=HK3.out;have:=HK4.out;omega⟩,⟨qq_b⟩⟩
            ·rw[if_neg I]at H;exact absurd H (by simp)
           ·rw[if_neg q]at H;have ak:=decide_eq_false q;clear q;replace H:=Option.bind_eq_some_iff.mp H;obtain⟨A,ac,H⟩:=H;have ax:=QA ac;clear ac;replace H:=Option.bind_eq_some_iff.mp H;obtain⟨B,ad,H⟩:=H;have ay:=QA ad;clear ad;replace H:=Option.bind_eq_some_iff.mp H;obtain⟨ao,ae,H⟩:=H;have az:=QA ae;clear ae;obtain rfl:=Option.some.inj H
            go_wp2_with (first |((with_reducible refine Qif (f:=193) rfl ?_);refine Qgi (some 74) rfl rfl Tryz.func193 qq_2 rfl #[.int .u64 j,.int .i64 33] rfl qq_0 ?_;(with_reducible refine(Qbg.calls k4 j 33 A _ ax.out).mono ?_);rintro e w' ⟨rfl,⟨nd,rfl⟩⟩;refine⟨_,rfl,?_⟩) |((with_reducible refine Qif (f:=193) rfl ?_);refine Qgi (some 77) rfl rfl Tryz.func193 qq_2 rfl #[.int .u64 (IntKind.u64.wrap (A*14029467366897019727)),.int .i64 29] rfl qq_0 ?_;(with_reducible refine(Qbg.calls k4 (IntKind.u64.wrap (A*14029467366897019727)) 29 B _ ay.out).mono ?_);rintro e w' ⟨rfl,⟨nd,rfl⟩⟩;refine⟨_,rfl,?_⟩) |((with_reducible refine Qif (f:=193) rfl ?_);refine Qgi (some 80) rfl rfl Tryz.func193 qq_2 rfl #[.int .u64 (IntKind.u64.wrap (B*1609587929392839161)),.int .i64 32] rfl qq_0 ?_;(with_reducible refine(Qbg.calls k4 (IntKind.u64.wrap (B*1609587929392839161)) 32 ao _ az.out).mono ?_);rintro e w' ⟨rfl,⟨nd,rfl⟩⟩;refine⟨_,rfl,?_⟩))
            go_ret
            exact⟨qq_5,qq_b⟩
def Qbj.f(k:Nat)(a0_0:Bool)(a0_1:Int)(a0_2:ByteArray)(a0_3:ByteArray):Option (ByteArray):=if a0_0=true then((Qbb.f k a0_1).bind fun t156=>(if 1+t156.size≤9223372036854775807 then((Qbc.f k a0_2).bind fun t157=>(if((⟨#[3]⟩:ByteArray)++t156).size+t157.size≤9223372036854775807 then(some (((⟨#[3]⟩:ByteArray)++t156)++t157))else(none)))else(none)))else((Qbb.f k a0_1).bind fun t158=>(if 1+t158.size≤9223372036854775807 then((Qbc.f k a0_2).bind fun t159=>(if((⟨#[2]⟩:ByteArray)++t158).size+t159.size≤9223372036854775807 then((Qbc.f k a0_3).bind fun t160=>(if(((⟨#[2]⟩:ByteArray)++t158)++t159).size+t160.size≤9223372036854775807 then(some ((((⟨#[2]⟩:ByteArray)++t158)++t159)++t160))else(none)))else(none)))else(none)))
def Qbj.T2:Bool × List (List Nat × List Nat):=(true,[([],[]),([0],[0]),([1],[1]),([2],[2]),([],[]),([4],[4]),([5,2],[5]),([3,6],[3,6]),([7,6,0,1,2,3,4,5,6,7],[7])])
def Qbj.B2:List Nat:=[0,1,3,7,0,16,55,127,255]
theorem Qbj.tab2:rtab .any (Qhq Tryz.f82 2)=Qbj.T2:=by kernel_rfl
theorem Qbj.bits2:Qhk Qbj.T2.2 Qbj.B2=true:=by kernel_rfl
def Qbj.T3:Bool × List (List Nat × List Nat):=(true,[([],[]),([0],[0]),([1],[1]),([2],[2]),([],[]),([4],[4]),([5,2],[5]),([3,6],[3,6]),([],[]),([8],[8]),([9,6],[9]),([7,10],[7,10]),([11,10,0,1,2,3,4,5,6,7,8,9,10,11],[11])])
def Qbj.B3:List Nat:=[0,1,3,7,0,16,55,127,0,256,887,2047,4095]
theorem Qbj.tab3:rtab .any (Qhq Tryz.f82 3)=Qbj.T3:=by kernel_rfl
theorem Qbj.bits3:Qhk Qbj.T3.2 Qbj.B3=true:=by kernel_rfl
theorem Qbj.calls(k:Nat)(u:Bool)(c:Int)(d:ByteArray)(l:ByteArray)(r:ByteArray)(w:World)(h:Qbj.f k u c d l=some r) :
  Calls Tryz.prog 82 #[.agg #[.bool u,.int .u64 c,.string d,.string l]] w fun e w'=>e=.returned (.string r)∧Below w.heap.size w w':=by
 have hu37:=Tryz.underlying37;have HB:=QA (Below.refl w.heap.size w);have H:(if u=true then((Qbb.f k c).bind fun p=>(if 1+p.size≤9223372036854775807 then((Qbc.f k d).bind fun s=>(if((⟨#[3]⟩:ByteArray)++p).size+s.size≤9223372036854775807 then(some (((⟨#[3]⟩:ByteArray)++p)++s))else(none)))else(none)))else((Qbb.f k c).bind fun m=>(if 1+m.size≤9223372036854775807 then((Qbc.f k d).bind fun q=>(if((⟨#[2]⟩:ByteArray)++m).size+q.size≤9223372036854775807 then((Qbc.f k l).bind fun t=>(if(((⟨#[2]⟩:ByteArray)++m)++q).size+t.size≤9223372036854775807 then(some ((((⟨#[2]⟩:ByteArray)++m)++q)++t))else(none)))else(none)))else(none))))=some r:=h;clear h
 by_cases c2:u=true
 ·subst c2;rw[if_pos rfl]at H;replace H:=Option.bind_eq_some_iff.mp H;obtain⟨p,T,H⟩:=H;have A3:=QA T;clear T
  by_cases c4:1+p.size≤9223372036854775807
  ·rw[if_pos c4]at H;have au:=eq_true c4;have av:=decide_eq_true c4
   try have aw:(9223372036854775807<1+p.size)=False:=eq_false (Nat.not_lt.2 c4)
   replace H:=Option.bind_eq_some_iff.mp H;obtain⟨s,U,H⟩:=H;have A5:=QA U;clear U
   by_cases c6:((⟨#[3]⟩:ByteArray)++p).size+s.size≤9223372036854775807
   ·rw[if_pos c6]at H;have ax:=eq_true c6;have ay:=decide_eq_true c6
    try have B:(9223372036854775807<((⟨#[3]⟩:ByteArray)++p).size+s.size)=False:=eq_false (Nat.not_lt.2 c6)
    try have W:=B
    try simp only[ByteArray.size_append,(show ∀x_:UInt8,(⟨#[x_]⟩:ByteArray).size=1 from fun _=>rfl),(show ∀x_ y_:UInt8,(⟨#[x_,y_]⟩:ByteArray).size=2 from fun _ _=>rfl)]at W
    try have X:=B
    try simp only[ByteArray.size_append,ByteArray.size_extract,(show ∀x_:UInt8,(⟨#[x_]⟩:ByteArray).size=1 from fun _=>rfl),(show ∀x_ y_:UInt8,(⟨#[x_,y_]⟩:ByteArray).size=2 from fun _ _=>rfl)]at X
    obtain rfl:=Option.some.inj H
    go_enter Tryz.func82,Tryz.ntmps82
    try go_wp2_with (first |((with_reducible refine Qfn (N:=1) rfl ?_);refine qq_e 1 #[.bool true,.int .u64 c,.string d,.string l] 37 ?_;intro b hg w7 hbox hb;have n_:=qn4 (Qfd qq_b hb) (hbox) (qq_s hg:w.heap.size≤b) (qq_s hg:w.heap.size≤b);clear HB;obtain⟨HB,a,I,J⟩:=n_;clear hb hbox hg;obtain⟨ac,ad,ae,af⟩:=qc4 a.out;have az:=Qdp a.out))
    have n_:=qn2 (Qeb a.out) (Qfj HB.out);clear a HB;obtain⟨a,HB⟩:=n_;refine Qfz (n:=9) (S:=fun w'=>w'.cell? ⟨b,0,none⟩=some (.bool true)∧w'.cell? ⟨b,1,none⟩=some (.int .u64 c)∧w'.cell? ⟨b,2,none⟩=some (.string d)∧w'.cell? ⟨b,3,none⟩=some (.string l)) (ds:=[]) (bm 9 0) qq_2 rfl rfl ⟨(Qdo a.out 0).trans rfl,(Qdo a.out 1).trans rfl,(Qdo a.out 2).trans rfl,(Qdo a.out 3).trans rfl⟩ (fun j=>?_);refine Qho Qbj.tab2 Qbj.bits2 (fun HT_ HW_=>?_);generalize w7.drew=w9 at a HB j ⊢;refine pz_ (i:=0) (N:=some 5) (bm 9 1) (Qhg HT_.out qq_2) ?_;refine pz_ (i:=4) (N:=some 9) (bm 9 17) (Qhg HT_.out qq_2) ?_;refine tz_ (i:=1) (N:=some 6) (bm 9 19) (Qhn HT_.out HW_.out qq_2) j ?_;refine tz_ (i:=5) (N:=some 10) (bm 9 51) (Qhn HT_.out HW_.out qq_2) j ?_;refine one_ (i:=2) (N:=some 7) (bm 9 55) rfl rfl (Qhh HT_.out qq_2) (by decide) (fun K hK=>?_);refine Qgh Tryz.func135 qq_2 rfl #[.int .u64 c] (by rfl) rfl rfl qq_0 ?_;with_reducible refine(Qbb.calls k c p _ A3.out).mono ?_
    rintro e aA ⟨rfl,hb⟩;refine⟨_,rfl,?_⟩;have n_:=qn2 (Qed (g:=b) (o:=.cells #[.bool true,.int .u64 c,.string d,.string l] 37 (0,0)) qq_1 hb) (Qfd qq_b hb);clear a HB;obtain⟨a,HB⟩:=n_
    (try clear hb)
    (try clear hb2)
    (try clear hk)
    (try clear hi)
    refine hK.out _ _ ⟨(Qdo a.out 0).trans rfl,(Qdo a.out 1).trans rfl,(Qdo a.out 2).trans rfl,(Qdo a.out 3).trans rfl⟩ (fun j=>?_);clear hK K;refine nzp_ 7 ?_;refine pz_ (i:=3) (N:=some 8) (bm 9 63) (Qhg HT_.out qq_2) ?_;refine one_ (i:=6) (N:=some 11) (bm 9 127) rfl rfl (Qhh HT_.out qq_2) (by decide) (fun K hK=>?_);refine Qgh Tryz.func136 qq_2 rfl #[.string d] (by rfl) rfl rfl qq_0 ?_;with_reducible refine(Qbc.calls k d s _ A5.out).mono ?_
    rintro e aB ⟨rfl,hb⟩;refine⟨_,rfl,?_⟩;have n_:=qn2 (Qed (g:=b) (o:=.cells #[.bool true,.int .u64 c,.string d,.string l] 37 (0,0)) qq_1 hb) (Qfd qq_b hb);clear a HB;obtain⟨a,HB⟩:=n_
    (try clear hb)
    (try clear hb2)
    (try clear hk)
    (try clear hi)
    refine hK.out _ _ ⟨(Qdo a.out 0).trans rfl,(Qdo a.out 1).trans rfl,(Qdo a.out 2).trans rfl,(Qdo a.out 3).trans rfl⟩ (fun j=>?_);clear hK K;refine nzp_ 11 ?_;refine pz_ (i:=7) (N:=some 12) (bm 9 255) (Qhg HT_.out qq_2) ?_;refine pz_ (i:=8) (N:=some 2) (bm 9 511) (Qhg HT_.out qq_2) ?_;refine Qgd (Qhj HT_.out qq_2) ?_
    try go_wp2
    go_ret
    exact⟨qq_5,qq_b⟩
   ·rw[if_neg c6]at H;exact absurd H (by simp)
  ·rw[if_neg c4]at H;exact absurd H (by simp)
 ·replace c2:=Bool.eq_false_iff.mpr c2;subst c2;rw[if_neg (show ¬(false=true)by decide)]at H;replace H:=Option.bind_eq_some_iff.mp H;obtain⟨m,D,H⟩:=H;have ag:=QA D;clear D
  by_cases v:1+m.size≤9223372036854775807
  ·rw[if_pos v]at H;have ak:=eq_true v;have al:=decide_eq_true v
   try have am:(9223372036854775807<1+m.size)=False:=eq_false (Nat.not_lt.2 v)
   replace H:=Option.bind_eq_some_iff.mp H;obtain⟨q,E,H⟩:=H;have ah:=QA E;clear E
   by_cases x:((⟨#[2]⟩:ByteArray)++m).size+q.size≤9223372036854775807
   ·rw[if_pos x]at H;have an:=eq_true x;have ao:=decide_eq_true x
    try have z:(9223372036854775807<((⟨#[2]⟩:ByteArray)++m).size+q.size)=False:=eq_false (Nat.not_lt.2 x)
    try have L:=z
    try simp only[ByteArray.size_append,(show ∀x_:UInt8,(⟨#[x_]⟩:ByteArray).size=1 from fun _=>rfl),(show ∀x_ y_:UInt8,(⟨#[x_,y_]⟩:ByteArray).size=2 from fun _ _=>rfl)]at L
    try have M:=z
    try simp only[ByteArray.size_append,ByteArray.size_extract,(show ∀x_:UInt8,(⟨#[x_]⟩:ByteArray).size=1 from fun _=>rfl),(show ∀x_ y_:UInt8,(⟨#[x_,y_]⟩:ByteArray).size=2 from fun _ _=>rfl)]at M
    replace H:=Option.bind_eq_some_iff.mp H;obtain⟨t,G,H⟩:=H;have ai:=QA G;clear G
    by_cases y:(((⟨#[2]⟩:ByteArray)++m)++q).size+t.size≤9223372036854775807
    ·rw[if_pos y]at H;have ap:=eq_true y;have aq:=decide_eq_true y
     try have A:(9223372036854775807<(((⟨#[2]⟩:ByteArray)++m)++q).size+t.size)=False:=eq_false (Nat.not_lt.2 y)
     try have O:=A
     try simp only[ByteArray.size_append,(show ∀x_:UInt8,(⟨#[x_]⟩:ByteArray).size=1 from fun _=>rfl),(show ∀x_ y_:UInt8,(⟨#[x_,y_]⟩:ByteArray).size=2 from fun _ _=>rfl)]at O
     try have P:=A
     try simp only[ByteArray.size_append,ByteArray.size_extract,(show ∀x_:UInt8,(⟨#[x_]⟩:ByteArray).size=1 from fun _=>rfl),(show ∀x_ y_:UInt8,(⟨#[x_,y_]⟩:ByteArray).size=2 from fun _ _=>rfl)]at P
     obtain rfl:=Option.some.inj H
     go_enter Tryz.func82,Tryz.ntmps82
     try go_wp2_with (first |((with_reducible refine Qfn (N:=1) rfl ?_);refine qq_e 1 #[.bool false,.int .u64 c,.string d,.string l] 37 ?_;intro b hg aj hbox hb;have n_:=qn4 (Qfd qq_b hb) (hbox) (qq_s hg:w.heap.size≤b) (qq_s hg:w.heap.size≤b);clear HB;obtain⟨HB,a,I,J⟩:=n_;clear hb hbox hg;obtain⟨Y,Z,aa,ab⟩:=qc4 a.out;have ar:=Qdp a.out))
     have n_:=qn2 (Qeb a.out) (Qfj HB.out);clear a HB;obtain⟨a,HB⟩:=n_;refine Qfz (n:=13) (S:=fun w'=>w'.cell? ⟨b,0,none⟩=some (.bool false)∧w'.cell? ⟨b,1,none⟩=some (.int .u64 c)∧w'.cell? ⟨b,2,none⟩=some (.string d)∧w'.cell? ⟨b,3,none⟩=some (.string l)) (ds:=[]) (bm 13 0) qq_2 rfl rfl ⟨(Qdo a.out 0).trans rfl,(Qdo a.out 1).trans rfl,(Qdo a.out 2).trans rfl,(Qdo a.out 3).trans rfl⟩ (fun j=>?_);refine Qho Qbj.tab3 Qbj.bits3 (fun HT_ HW_=>?_);generalize aj.drew=w20 at a HB j ⊢;refine pz_ (i:=0) (N:=some 13) (bm 13 1) (Qhg HT_.out qq_2) ?_;refine pz_ (i:=4) (N:=some 17) (bm 13 17) (Qhg HT_.out qq_2) ?_;refine pz_ (i:=8) (N:=some 21) (bm 13 273) (Qhg HT_.out qq_2) ?_;refine tz_ (i:=1) (N:=some 14) (bm 13 275) (Qhn HT_.out HW_.out qq_2) j ?_;refine tz_ (i:=5) (N:=some 18) (bm 13 307) (Qhn HT_.out HW_.out qq_2) j ?_;refine tz_ (i:=9) (N:=some 22) (bm 13 819) (Qhn HT_.out HW_.out qq_2) j ?_;refine one_ (i:=2) (N:=some 15) (bm 13 823) rfl rfl (Qhh HT_.out qq_2) (by decide) (fun K hK=>?_);refine Qgh Tryz.func135 qq_2 rfl #[.int .u64 c] (by rfl) rfl rfl qq_0 ?_;with_reducible refine(Qbb.calls k c m _ ag.out).mono ?_
     rintro e aC ⟨rfl,hb⟩;refine⟨_,rfl,?_⟩;have n_:=qn2 (Qed (g:=b) (o:=.cells #[.bool false,.int .u64 c,.string d,.string l] 37 (0,0)) qq_1 hb) (Qfd qq_b hb);clear a HB;obtain⟨a,HB⟩:=n_
     (try clear hb)
     (try clear hb2)
     (try clear hk)
     (try clear hi)
     refine hK.out _ _ ⟨(Qdo a.out 0).trans rfl,(Qdo a.out 1).trans rfl,(Qdo a.out 2).trans rfl,(Qdo a.out 3).trans rfl⟩ (fun j=>?_);clear hK K;refine nzp_ 15 ?_;refine pz_ (i:=3) (N:=some 16) (bm 13 831) (Qhg HT_.out qq_2) ?_;refine one_ (i:=6) (N:=some 19) (bm 13 895) rfl rfl (Qhh HT_.out qq_2) (by decide) (fun K hK=>?_);refine Qgh Tryz.func136 qq_2 rfl #[.string d] (by rfl) rfl rfl qq_0 ?_;with_reducible refine(Qbc.calls k d q _ ah.out).mono ?_
     rintro e aD ⟨rfl,hb⟩;refine⟨_,rfl,?_⟩;have n_:=qn2 (Qed (g:=b) (o:=.cells #[.bool false,.int .u64 c,.string d,.string l] 37 (0,0)) qq_1 hb) (Qfd qq_b hb);clear a HB;obtain⟨a,HB⟩:=n_
     (try clear hb)
     (try clear hb2)
     (try clear hk)
     (try clear hi)
     refine hK.out _ _ ⟨(Qdo a.out 0).trans rfl,(Qdo a.out 1).trans rfl,(Qdo a.out 2).trans rfl,(Qdo a.out 3).trans rfl⟩ (fun j=>?_);clear hK K;refine nzp_ 19 ?_;refine pz_ (i:=7) (N:=some 20) (bm 13 1023) (Qhg HT_.out qq_2) ?_;refine one_ (i:=10) (N:=some 23) (bm 13 2047) rfl rfl (Qhh HT_.out qq_2) (by decide) (fun K hK=>?_);refine Qgh Tryz.func136 qq_2 rfl #[.string l] (by rfl) rfl rfl qq_0 ?_;with_reducible refine(Qbc.calls k l t _ ai.out).mono ?_
     rintro e aE ⟨rfl,hb⟩;refine⟨_,rfl,?_⟩;have n_:=qn2 (Qed (g:=b) (o:=.cells #[.bool false,.int .u64 c,.string d,.string l] 37 (0,0)) qq_1 hb) (Qfd qq_b hb);clear a HB;obtain⟨a,HB⟩:=n_
     (try clear hb)
     (try clear hb2)
     (try clear hk)
     (try clear hi)
     refine hK.out _ _ ⟨(Qdo a.out 0).trans rfl,(Qdo a.out 1).trans rfl,(Qdo a.out 2).trans rfl,(Qdo a.out 3).trans rfl⟩ (fun j=>?_);clear hK K;refine nzp_ 23 ?_;refine pz_ (i:=11) (N:=some 24) (bm 13 4095) (Qhg HT_.out qq_2) ?_;refine pz_ (i:=12) (N:=some 2) (bm 13 8191) (Qhg HT_.out qq_2) ?_;refine Qgd (Qhj HT_.out qq_2) ?_
     try go_wp2
     go_ret
     exact⟨qq_5,qq_b⟩
    ·rw[if_neg y]at H;exact absurd H (by simp)
   ·rw[if_neg x]at H;exact absurd H (by simp)
  ·rw[if_neg v]at H;exact absurd H (by simp)
end Go.Proofs.YteaocbonofboeaaGreat.C
end
