/- Merged texts. -/
import Derived.Test.YteaocbonofboeaaGreatMC02
import Derived.Test.YteaocbonofboeaaGreatMC13
import Derived.Test.YteaocbonofboeaaGreatMC04
import Derived.Test.YteaocbonofboeaaGreatMC16
import Derived.Test.YteaocbonofboeaaGreatMC05
import Derived.WalkLawsBesides
import Derived.Recover
import Derived.Defers
import Derived.Test.YteaocbonofboeaaGreatMC14
import Derived.Test.YteaocbonofboeaaGreatMC15
import Derived.Test.YteaocbonofboeaaGreatMC07
import Derived.Test.YteaocbonofboeaaGreatMC09
import Derived.Test.YteaocbonofboeaaGreatMC10
import Derived.Test.YteaocbonofboeaaGreatMC08
set_option linter.unusedVariables false
set_option linter.unusedSimpArgs false
set_option maxHeartbeats 8000000
set_option maxRecDepth 100000
section
namespace Go.Proofs.YteaocbonofboeaaGreat.C
open Go.RowKit Go.Proofs.YteaocbonofboeaaGreatW.PrintWords Go.Proofs.YteaocbonofboeaaGreatW.PrintLast Go.Proofs.YteaocbonofboeaaGreatW.PrintMore
attribute [local go_sem] Qhx Qhy Qhz Qia Qib Qic Qid Qie
def Qbt.f(a0_0:Bool)(a0_1:Int)(a0_2:ByteArray)(a0_3:ByteArray):Option (List Int × Int):=(Qcf.f a0_0 a0_1 a0_2 a0_3).bind fun bt179=>(if bt179.2=0 then((Qbu.f bt179.1).bind fun t183=>(some (t183,0)))else(some (([]:List Int),bt179.2)))
theorem Qbt.calls(b:Bool)(c:Int)(d:ByteArray)(j:ByteArray)(r1:List Int)(r2:Int)(w:World)(h:Qbt.f b c d j=some (r1,r2)) :
  Calls Tryz.prog 59 #[.agg #[.bool b,.int .u64 c,.string d,.string j]] w fun e w'=>∃u:Value,e=.returned (.tuple #[u,.int .i64 r2])∧Kd.R (Kd.int .u8) 5 w' w.heap.size (fun _=>True) u r1∧Below w.heap.size w w':=by
 have hu37:=Tryz.underlying37;have HB:=QA (Below.refl w.heap.size w);have H:((Qcf.f b c d j).bind fun bt179=>(if bt179.2=0 then((Qbu.f bt179.1).bind fun p=>(some (p,0)))else(some (([]:List Int),bt179.2))))=some (r1,r2):=h;clear h;replace H:=Option.bind_eq_some_iff.mp H;obtain⟨⟨q,l⟩,v,H⟩:=H;replace H:(if l=0 then((Qbu.f q).bind fun p=>(some (p,0)))else(some (([]:List Int),l)))=some (r1,r2):=H;have A2:=QA v;clear v
 by_cases c3:l=0
 ·rw[if_pos c3]at H;have y:(l == 0)=true:=beq_iff_eq.mpr c3;have z:(l != 0)=false:=bne_eq_false_iff_eq.mpr c3;clear c3;replace H:=Option.bind_eq_some_iff.mp H;obtain⟨p,x,H⟩:=H;have A4:=QA x;clear x;simp only[Option.some.injEq,Prod.mk.injEq]at H;obtain⟨rfl,rfl⟩:=H
  go_enter Tryz.func59,Tryz.ntmps59
  go_wp2_with (first |((with_reducible refine Qfn (N:=1) rfl ?_);refine qq_e 1 #[.bool b,.int .u64 c,.string d,.string j] 37 ?_;intro k hg w5 hbox hb;have n_:=qn4 (Qfd qq_b hb) (hbox) (qq_s hg:w.heap.size≤k) (qq_s hg:w.heap.size≤k);clear HB;obtain⟨HB,a,r,s⟩:=n_;clear hb hbox hg;obtain⟨I,J,K,L⟩:=qc4 a.out;have O:=Qdp a.out) |((with_reducible refine Qif (f:=105) rfl ?_);refine Qgi (some 8) rfl rfl Tryz.func105 qq_2 rfl #[.agg #[.bool b,.int .u64 c,.string d,.string j]] rfl qq_0 ?_;(with_reducible refine(Qcf.calls b c d j q l _ A2.out).mono ?_);rintro e w7 ⟨A,rfl,n,hb⟩;refine⟨_,rfl,?_⟩;have n_:=qn3 (Kd.R_lower n (Qfc qq_b)) (Qed (g:=k) (o:=.cells #[.bool b,.int .u64 c,.string d,.string j] 37 (0,0)) qq_1 hb) (Qfd qq_b hb);clear a HB;obtain⟨m,a,HB⟩:=n_;(try clear hb);(try clear hb2);(try clear hk);(try clear hi);(try clear n);obtain⟨Ao8,co8,eo8⟩:=Kd.R_slice m.out;subst eo8) |((with_reducible refine Qif (f:=103) rfl ?_);refine Qgi (some 15) rfl rfl Tryz.func103 qq_2 rfl #[.slice Ao8 q.length co8] rfl qq_0 ?_;(with_reducible refine(Qbu.calls _ _ q p _ ?side1 ?side2 A4.out).mono ?_);(case side1=>repeat(first|exact(Kd.R_reads' m.out).2.2 |(with_reducible refine Kd.C_alloc ?_ _) |(with_reducible refine Kd.C_drewN ?_ _) |(with_reducible refine Kd.C_drew ?_)));(case side2=>exact(Kd.R_reads' m.out).2.1);rintro e w9 ⟨P,rfl,n,hb⟩;refine⟨_,rfl,?_⟩;have n_:=qn4 (Kd.R_elder' qq_7 (Kd.R_base n) hb) (Kd.R_lower (Kd.R_new' n (Kd.R_lt qq_7)) (Qfc qq_b)) (Qed (g:=k) (o:=.cells #[.bool b,.int .u64 c,.string d,.string j] 37 (0,0)) qq_1 hb) (Qfd qq_b hb);clear m a HB;obtain⟨m,t,a,HB⟩:=n_;(try clear hb);(try clear hb2);(try clear hk);(try clear hi);(try clear n)))
  go_ret2
  exact⟨_,by first|rfl |(simp[Qik,Qil]<;>rfl) |(simp[*,Qik,Qil]<;>rfl),by(with_reducible repeat(first|apply Kd.R_alloc|apply Kd.R_drewN|apply Kd.R_drew));exact Kd.R_mono t.out (fun _ hk=>trivial),qq_b⟩
 ·rw[if_neg c3]at H;have y:(l == 0)=false:=beq_eq_false_iff_ne.mpr c3;have z:(l != 0)=true:=bne_iff_ne.mpr c3;simp only[Option.some.injEq,Prod.mk.injEq]at H;obtain⟨rfl,rfl⟩:=H
  go_enter Tryz.func59,Tryz.ntmps59
  go_wp2_with (first |((with_reducible refine Qfn (N:=1) rfl ?_);refine qq_e 1 #[.bool b,.int .u64 c,.string d,.string j] 37 ?_;intro k hg T hbox hb;have n_:=qn4 (Qfd qq_b hb) (hbox) (qq_s hg:w.heap.size≤k) (qq_s hg:w.heap.size≤k);clear HB;obtain⟨HB,a,r,s⟩:=n_;clear hb hbox hg;obtain⟨B,D,E,G⟩:=qc4 a.out;have M:=Qdp a.out) |((with_reducible refine Qif (f:=105) rfl ?_);refine Qgi (some 8) rfl rfl Tryz.func105 qq_2 rfl #[.agg #[.bool b,.int .u64 c,.string d,.string j]] rfl qq_0 ?_;(with_reducible refine(Qcf.calls b c d j q l _ A2.out).mono ?_);rintro e U ⟨A,rfl,n,hb⟩;refine⟨_,rfl,?_⟩;have n_:=qn3 (Kd.R_lower n (Qfc qq_b)) (Qed (g:=k) (o:=.cells #[.bool b,.int .u64 c,.string d,.string j] 37 (0,0)) qq_1 hb) (Qfd qq_b hb);clear a HB;obtain⟨m,a,HB⟩:=n_;(try clear hb);(try clear hb2);(try clear hk);(try clear hi);(try clear n)))
  go_ret2
  exact⟨_,by first|rfl |(simp[Qik,Qil]<;>rfl) |(simp[*,Qik,Qil]<;>rfl),by first|exact Kd.R_nil _ _ _ _ _|exact Kd.N_nil _ _ _ _ _|exact Kd.V_nil _ _ _ _ _|exact Kd.Q_nil _ _ _ _ _|exact Kd.S_nil _ _ _ _ _,qq_b⟩
def Qby.l0:Nat→List Int→List (S37)→Int→Int→Int→Int→Option (List Int × List Int × Int)
 | 0,_,_,_,_,_,_=>none
 | k+1,x5,x23,x24,x25,x254000,x254001=>if x25<x24 then(if 0≤x25 then(if x25<(x23.length:Int)then((Qbt.f ((Qiq x23 x25).f0) ((Qiq x23 x25).f1) ((Qiq x23 x25).f2) ((Qiq x23 x25).f3)).bind fun bt258=>(if x5.length<17592186044416 then(Qby.l0 k (x5++[(bt258.1.length:Int)]) x23 x24 (wrap64 (x25+1)) x254000 x254001)else(none)))else(none))else(none))else((Qca.f k x254000 x254001 x5).bind fun bt265=>(some (bt265.1,x5,bt265.2)))
def Qby.f(k:Nat)(a0_0:Int)(a0_1:Int)(l1:List (S37)):Option (List Int × List Int × Int):=(Qao.f a0_0 a0_1).bind fun t254=>(if t254=0 then((Qci.f k l1).bind fun t255=>(if t255=0 then(Qby.l0 k ([]:List Int) l1 (l1.length:Int) 0 a0_0 a0_1)else(some (([]:List Int),([]:List Int),t255))))else(some (([]:List Int),([]:List Int),t254)))
theorem Qby.calls (k:Nat) (d:Int) (j:Int) (A1:Option Addr) (c1:Nat) (l1:List (S37)) (r1:List Int) (r2:List Int) (r3:Int) (w:World) (hr1:Kd.C k37 w A1 l1.length l1) (hc1:l1.length≤c1) (h:Qby.f k d j l1=some (r1,r2,r3)) :
  Calls Tryz.prog 80 #[.agg #[.int .u8 d,.int .u32 j],.slice A1 l1.length c1] w fun e w'=>∃am an:Value,e=.returned (.tuple #[am,an,.int .i64 r3])∧Kd.R (Kd.int .u32) 26 w' w.heap.size (fun _=>True) am r1∧Kd.R (Kd.int .i64) 3 w' w.heap.size (fun _=>True) an r2∧Below w.heap.size w w':=by
 have hu28:=Tryz.underlying28;have hu37:=Tryz.underlying37;have T:=QA hr1;have ao:=QA hc1;clear hr1 hc1;have HB:=QA (Below.refl w.heap.size w);have H:((Qao.f d j).bind fun n=>(if n=0 then((Qci.f k l1).bind fun s=>(if s=0 then(Qby.l0 k ([]:List Int) l1 (l1.length:Int) 0 d j)else(some (([]:List Int),([]:List Int),s))))else(some (([]:List Int),([]:List Int),n))))=some (r1,r2,r3):=h;clear h;replace H:=Option.bind_eq_some_iff.mp H;obtain⟨n,ap,H⟩:=H;have A3:=QA ap;clear ap
 by_cases c4:n=0
 ·rw [if_pos c4]at H;have U:(n == 0)=true:=beq_iff_eq.mpr c4;have W:(n != 0)=false:=bne_eq_false_iff_eq.mpr c4;clear c4;replace H:=Option.bind_eq_some_iff.mp H;obtain⟨s,aq,H⟩:=H;have A5:=QA aq;clear aq
  by_cases c6:s=0
  ·rw [if_pos c6]at H;have X:(s == 0)=true:=beq_iff_eq.mpr c6;have Y:(s != 0)=false:=bne_eq_false_iff_eq.mpr c6;clear c6;have H':=QA H;clear H
   go_enter Tryz.func80,Tryz.ntmps80
   go_wp2_with (first |((with_reducible refine Qfn (N:=2) rfl ?_);refine qq_e 2 #[.int .u8 d,.int .u32 j] 28 ?_;intro l hg w7 hbox hb;have n_:=qn4 (Qfd qq_b hb) (hbox) (qq_s hg:w.heap.size≤l) (qq_s hg:w.heap.size≤l);clear HB;obtain⟨HB,a,K,L⟩:=n_;clear hb hbox hg;obtain⟨Z,aa⟩:=qc2 a.out;have ar:=Qdp a.out) |((with_reducible refine Qif (f:=118) rfl ?_);refine Qgi (some 14) rfl rfl Tryz.func118 qq_2 rfl #[.agg #[.int .u8 d,.int .u32 j]] rfl qq_0 ?_;(with_reducible refine(Qao.calls d j n _ A3.out).mono ?_);rintro e w9 ⟨rfl,hb⟩;refine⟨_,rfl,?_⟩;have n_:=qn2 (Qed (g:=l) (o:=.cells #[.int .u8 d,.int .u32 j] 28 (0,0)) qq_1 hb) (Qfd qq_b hb);clear a HB;obtain⟨a,HB⟩:=n_;(try clear hb);(try clear hb2);(try clear hk);(try clear hi)) |((with_reducible refine Qif (f:=130) rfl ?_);refine Qgi (some 19) rfl rfl Tryz.func130 qq_2 rfl #[.slice A1 l1.length c1] rfl qq_0 ?_;(with_reducible refine(Qci.calls k _ _ l1 s _ ?side1 ?side2 A5.out).mono ?_);(case side1=>repeat(first|exact(Kd.C_below T.out HB.out) |(with_reducible refine Kd.C_alloc ?_ _) |(with_reducible refine Kd.C_drewN ?_ _) |(with_reducible refine Kd.C_drew ?_)));(case side2=>exact ao.out);rintro e bd ⟨rfl,hb⟩;refine⟨_,rfl,?_⟩;have n_:=qn2 (Qed (g:=l) (o:=.cells #[.int .u8 d,.int .u32 j] 28 (0,0)) qq_1 hb) (Qfd qq_b hb);clear a HB;obtain⟨a,HB⟩:=n_;(try clear hb);(try clear hb2);(try clear hk);(try clear hi)))
   go_loopg [5,25] k (fun kq v5 aI w'=>∃(q:List Int) (c:Int),aI=.int .i64 c∧Aside0 (Qby.l0 kq q l1 (l1.length:Int) c d j=some (r1,r2,r3))∧Aside0 (kq≤k)∧Aside0 (Kd.R (Kd.int .i64) 3 w' w.heap.size (fun _=>True) v5 q)∧Aside0 (w'.heap[l]? = some (.cells #[.int .u8 d,.int .u32 j] 28 (0,0)))∧Aside0 (Below w.heap.size w w'))
   case atStart=>exact⟨(([]:List Int)),(0),qq_4,H',⟨Nat.le_refl _⟩,⟨by first|exact Kd.R_nil _ _ _ _ _|exact Kd.N_nil _ _ _ _ _|exact Kd.V_nil _ _ _ _ _|exact Kd.Q_nil _ _ _ _ _|exact Kd.S_nil _ _ _ _ _⟩,⟨by(with_reducible repeat(first|apply Qec|apply Qeb|apply Qea));exact a.out⟩,⟨qq_b⟩⟩
   case round =>
    clear H'
    try clear c1
    try clear c4
    try clear U
    try clear W
    try clear c6
    try clear X
    try clear Y
    try clear Z
    try clear aa
    try clear ar
    obtain⟨q,c,rfl,HA,HK1,HO_5,a,HB⟩:=hrel
    cases gk with
    | zero=>exact absurd HA.out (by simp[Qby.l0])
    | succ k1 =>
     have H:=HA.out;clear HA;simp only[Qby.l0]at H
     by_cases x:c<(l1.length:Int)
     ·rw [if_pos x]at H;have ah:=decide_eq_true x;clear x
      by_cases M:0≤c
      ·rw[if_pos M]at H;have aM:=decide_eq_true M;clear M
       by_cases O:c<(l1.length:Int)
       ·rw[if_pos O]at H;have aN:=decide_eq_true O;clear O;replace H:=Option.bind_eq_some_iff.mp H;obtain⟨⟨v,au⟩,ab,H⟩:=H;replace H:(if q.length<17592186044416 then(Qby.l0 k1 (q++[(v.length:Int)]) l1 (l1.length:Int) (wrap64 (c+1)) d j)else(none))=some (r1,r2,r3):=H;have aJ:=QA ab;clear ab
        by_cases P:q.length<17592186044416
        ·rw[if_pos P]at H;have ai:=QA P;clear P;obtain⟨ac,t⟩:∃y_:List Int,y_=(q++[(v.length:Int)]):=⟨_,rfl⟩;replace H:(Qby.l0 k1 ac l1 (l1.length:Int) (wrap64 (c+1)) d j)=some (r1,r2,r3):=by first |(rw[t];with_reducible exact H) |(have ad:=(Option.bind_some _ _).symm.trans H;rw[t];with_reducible exact ad) |(have ad:=(Option.bind_some _ _).symm.trans H;with_reducible exact ad)|with_reducible exact H |(rw[t];exact H)|exact H
         have aj:=QA t;clear t;have H':=QA H;clear H;have I:0≤(c:Int):=of_decide_eq_true qq_6;have J:c<(l1.length:Int):=of_decide_eq_true qq_6;obtain⟨aQ,av,y,z,A,B⟩:=Qir T.out c I J
         cases av
         replace y:=qq_h HB.out y;replace z:=qq_h HB.out z;replace A:=qq_h HB.out A;replace B:=qq_h HB.out B;replace I:=eq_true I;replace J:=eq_true J
         go_wp2_with (first |((with_reducible refine Qfn (N:=10) rfl ?_);refine qq_e 10 #[.bool false,.int .u64 0,.string (⟨#[]⟩:ByteArray),.string (⟨#[]⟩:ByteArray)] 37 ?_;intro m hg be hbox hb;have n_:=qn8 (Kd.R_below qq_20 hb) (Qed (g:=l) (o:=.cells #[.int .u8 d,.int .u32 j] 28 (0,0)) qq_1 hb) (Qfd qq_b hb) (hbox) (qq_s hg:w.heap.size≤m) (qq_s hg:w.heap.size≤m) ((by rw[hg];exact Nat.ne_of_lt (Qdn (g:=l) (o:=.cells #[.int .u8 d,.int .u32 j] 28 (0,0)) qq_1):l≠m)) ((by rw[hg];exact Nat.ne_of_gt (Qdn (g:=l) (o:=.cells #[.int .u8 d,.int .u32 j] 28 (0,0)) qq_1):m≠l));clear HO_5 a HB;obtain⟨HO_5,a,HB,r,aR,aT,D,E⟩:=n_;clear hb hbox hg;have aU:=E.out;have aV:=D.out;obtain⟨aw,ax,ay,az⟩:=qc4 r.out;have aW:=Qdp r.out) |((with_reducible refine Qif (f:=59) rfl ?_);refine Qgi (some 31) rfl rfl Tryz.func59 qq_2 rfl #[.agg #[.bool ((Qiq l1 c).f0),.int .u64 ((Qiq l1 c).f1),.string ((Qiq l1 c).f2),.string ((Qiq l1 c).f3)]] rfl qq_0 ?_;(with_reducible refine(Qbt.calls ((Qiq l1 c).f0) ((Qiq l1 c).f1) ((Qiq l1 c).f2) ((Qiq l1 c).f3) v au _ aJ.out).mono ?_);rintro e bf ⟨ba,rfl,G,hb⟩;refine⟨_,rfl,?_⟩;have n_:=qn5 (Kd.R_below (by(with_reducible repeat(first|apply Kd.R_alloc|apply Kd.R_drewN|apply Kd.R_drew));exact(Kd.R_mono (Kd.R_far (p:=⟨m,3,none⟩) (Kd.R_far (p:=⟨m,2,none⟩) (Kd.R_far (p:=⟨m,1,none⟩) (Kd.R_far (p:=⟨m,0,none⟩) (Kd.R_types HO_5.out r.out (by decide)) (fun _ hk=>hk.2) (.bool ((Qiq l1 c).f0))) (fun _ hk=>hk.2) (.int .u64 ((Qiq l1 c).f1))) (fun _ hk=>hk.2) (.string ((Qiq l1 c).f2))) (fun _ hk=>hk.2) (.string ((Qiq l1 c).f3))) (fun _ h_=>h_.1))) hb) (Kd.R_lower G (Qfc qq_b)) (Qed (g:=l) (o:=.cells #[.int .u8 d,.int .u32 j] 28 (0,0)) qq_8 hb) (Qed (g:=m) (o:=.cells #[.bool ((Qiq l1 c).f0),.int .u64 ((Qiq l1 c).f1),.string ((Qiq l1 c).f2),.string ((Qiq l1 c).f3)] 37 (0,0)) qq_x hb) (Qfd qq_b hb);clear HO_5 a r HB;obtain⟨HO_5,u,a,r,HB⟩:=n_;(try clear hb);(try clear hb2);(try clear hk);(try clear hi);(try clear G);obtain⟨Ao20,co20,eo20⟩:=Kd.R_slice u.out;subst eo20) |((with_reducible refine Qig (b:=.append) (xs:=#[.tmp 34,.tmp 37]) rfl ?_);at_builtin;refine Kd.R_append (Kd.int .i64) (w0:=w) w.heap.size rfl (.tmp 34) (.tmp 37) 153 3 (.int .i64 0) 8 rfl Tryz.underlying153 info3 rfl (by decide) (by omega) u5 q (v.length:Int) [.int .i64 (v.length:Int)] (fun _=>True) (fun _=>False) rfl rfl ?aP (fun _ hk=>hk.elim) ?aF ?aO ?aB ?aS ?aL ?_;(case aP=>exact rfl);(case aB=>exact qq_b);(case aF=>exact(fun _ _=>trivial));(case aO=>exact qq_20);(case aS=>exact(Qfc qq_b));(case aL=>have:=ai.out;omega);intro bb bg ho hb hg hat;rw[← aj.out]at ho;have n_:=qn5 (Qdq (g:=l) (o:=.cells #[.int .u8 d,.int .u32 j] 28 (0,0)) qq_1 hg (Kd.R_ne HO_5.out a.out (by decide))) (Qdq (g:=m) (o:=.cells #[.bool ((Qiq l1 c).f0),.int .u64 ((Qiq l1 c).f1),.string ((Qiq l1 c).f2),.string ((Qiq l1 c).f3)] 37 (0,0)) qq_1 hg (Kd.R_ne HO_5.out r.out (by decide))) (Kd.R_over' (by(with_reducible repeat(first|apply Kd.R_alloc|apply Kd.R_drewN|apply Kd.R_drew));exact u.out) (Kd.R_typed qq_20) (by decide) hg) (hb) (ho);clear a r u HB HO_5;obtain⟨a,r,u,HB,ak⟩:=n_;clear ho hb hg hat))
         go_roundg k1
         case measure=>have:=HK1.out;omega
         case rel=>exact⟨(ac),(wrap64 (c+1)),qq_4,H',⟨by have:=HK1.out;omega⟩,⟨by(with_reducible repeat(first|apply Kd.R_alloc|apply Kd.R_drewN|apply Kd.R_drew));exact ak.out⟩,⟨by(with_reducible repeat(first|apply Qec|apply Qeb|apply Qea));exact a.out⟩,⟨qq_b⟩⟩
        ·rw[if_neg P]at H;exact absurd H (by simp)
       ·rw[if_neg O]at H;exact absurd H (by simp)
      ·rw[if_neg M]at H;exact absurd H (by simp)
     ·rw[if_neg x]at H;have ah:=decide_eq_false x;clear x;replace H:=Option.bind_eq_some_iff.mp H;obtain⟨⟨ae,af⟩,ag,H⟩:=H;replace H:(some (ae,q,af))=some (r1,r2,r3):=H;have aK:=QA ag;clear ag;simp only[Option.some.injEq,Prod.mk.injEq]at H;obtain⟨rfl,rfl,rfl⟩:=H;obtain⟨aA,aC⟩:=qc2 a.out;have aX:=Qdp a.out;obtain⟨Ao24,co24,eo24⟩:=Kd.R_slice HO_5.out;subst eo24
      go_wp2_with (first |((with_reducible refine Qif (f:=131) rfl ?_);refine Qgi (some 43) rfl rfl Tryz.func131 qq_2 rfl #[.agg #[.int .u8 d,.int .u32 j],.slice Ao24 q.length co24] rfl qq_0 ?_;(with_reducible refine(Qca.calls k1 d j _ _ q ae af _ ?side1 ?side2 aK.out).mono ?_);(case side1=>repeat(first|exact(Kd.R_reads' HO_5.out).2.2 |(with_reducible refine Kd.C_alloc ?_ _) |(with_reducible refine Kd.C_drewN ?_ _) |(with_reducible refine Kd.C_drew ?_)));(case side2=>exact(Kd.R_reads' HO_5.out).2.1);rintro e bh ⟨bc,rfl,G,hb⟩;refine⟨_,rfl,?_⟩;have n_:=qn4 (Kd.R_below qq_20 hb) (Kd.R_lower G (Qfc qq_b)) (Qed (g:=l) (o:=.cells #[.int .u8 d,.int .u32 j] 28 (0,0)) qq_1 hb) (Qfd qq_b hb);clear HO_5 a HB;obtain⟨HO_5,al,a,HB⟩:=n_;(try clear hb);(try clear hb2);(try clear hk);(try clear hi);(try clear G)))
      go_ret3
      exact⟨_,_,by first|rfl |(simp[Qik,Qil]<;>rfl) |(simp[*,Qik,Qil]<;>rfl),by(with_reducible repeat(first|apply Kd.R_alloc|apply Kd.R_drewN|apply Kd.R_drew));exact al.out,by(with_reducible repeat(first|apply Kd.R_alloc|apply Kd.R_drewN|apply Kd.R_drew));exact HO_5.out,qq_b⟩
  ·rw[if_neg c6]at H;have X:(s == 0)=false:=beq_eq_false_iff_ne.mpr c6;have Y:(s != 0)=true:=bne_iff_ne.mpr c6;simp only[Option.some.injEq,Prod.mk.injEq]at H;obtain⟨rfl,rfl,rfl⟩:=H
   go_enter Tryz.func80,Tryz.ntmps80
   go_wp2_with (first |((with_reducible refine Qfn (N:=2) rfl ?_);refine qq_e 2 #[.int .u8 d,.int .u32 j] 28 ?_;intro l hg bi hbox hb;have n_:=qn4 (Qfd qq_b hb) (hbox) (qq_s hg:w.heap.size≤l) (qq_s hg:w.heap.size≤l);clear HB;obtain⟨HB,a,K,L⟩:=n_;clear hb hbox hg;obtain⟨aD,aE⟩:=qc2 a.out;have aY:=Qdp a.out) |((with_reducible refine Qif (f:=118) rfl ?_);refine Qgi (some 14) rfl rfl Tryz.func118 qq_2 rfl #[.agg #[.int .u8 d,.int .u32 j]] rfl qq_0 ?_;(with_reducible refine(Qao.calls d j n _ A3.out).mono ?_);rintro e bj ⟨rfl,hb⟩;refine⟨_,rfl,?_⟩;have n_:=qn2 (Qed (g:=l) (o:=.cells #[.int .u8 d,.int .u32 j] 28 (0,0)) qq_1 hb) (Qfd qq_b hb);clear a HB;obtain⟨a,HB⟩:=n_;(try clear hb);(try clear hb2);(try clear hk);(try clear hi)) |((with_reducible refine Qif (f:=130) rfl ?_);refine Qgi (some 19) rfl rfl Tryz.func130 qq_2 rfl #[.slice A1 l1.length c1] rfl qq_0 ?_;(with_reducible refine(Qci.calls k _ _ l1 s _ ?side1 ?side2 A5.out).mono ?_);(case side1=>repeat(first|exact(Kd.C_below T.out HB.out) |(with_reducible refine Kd.C_alloc ?_ _) |(with_reducible refine Kd.C_drewN ?_ _) |(with_reducible refine Kd.C_drew ?_)));(case side2=>exact ao.out);rintro e bk ⟨rfl,hb⟩;refine⟨_,rfl,?_⟩;have n_:=qn2 (Qed (g:=l) (o:=.cells #[.int .u8 d,.int .u32 j] 28 (0,0)) qq_1 hb) (Qfd qq_b hb);clear a HB;obtain⟨a,HB⟩:=n_;(try clear hb);(try clear hb2);(try clear hk);(try clear hi)))
   go_ret3
   exact⟨_,_,by first|rfl |(simp[Qik,Qil]<;>rfl) |(simp[*,Qik,Qil]<;>rfl),by first|exact Kd.R_nil _ _ _ _ _|exact Kd.N_nil _ _ _ _ _|exact Kd.V_nil _ _ _ _ _|exact Kd.Q_nil _ _ _ _ _|exact Kd.S_nil _ _ _ _ _,by first|exact Kd.R_nil _ _ _ _ _|exact Kd.N_nil _ _ _ _ _|exact Kd.V_nil _ _ _ _ _|exact Kd.Q_nil _ _ _ _ _|exact Kd.S_nil _ _ _ _ _,qq_b⟩
 ·rw[if_neg c4]at H;have U:(n == 0)=false:=beq_eq_false_iff_ne.mpr c4;have W:(n != 0)=true:=bne_iff_ne.mpr c4;simp only[Option.some.injEq,Prod.mk.injEq]at H;obtain⟨rfl,rfl,rfl⟩:=H
  go_enter Tryz.func80,Tryz.ntmps80
  go_wp2_with (first |((with_reducible refine Qfn (N:=2) rfl ?_);refine qq_e 2 #[.int .u8 d,.int .u32 j] 28 ?_;intro l hg bl hbox hb;have n_:=qn4 (Qfd qq_b hb) (hbox) (qq_s hg:w.heap.size≤l) (qq_s hg:w.heap.size≤l);clear HB;obtain⟨HB,a,K,L⟩:=n_;clear hb hbox hg;obtain⟨aG,aH⟩:=qc2 a.out;have aZ:=Qdp a.out) |((with_reducible refine Qif (f:=118) rfl ?_);refine Qgi (some 14) rfl rfl Tryz.func118 qq_2 rfl #[.agg #[.int .u8 d,.int .u32 j]] rfl qq_0 ?_;(with_reducible refine(Qao.calls d j n _ A3.out).mono ?_);rintro e bn ⟨rfl,hb⟩;refine⟨_,rfl,?_⟩;have n_:=qn2 (Qed (g:=l) (o:=.cells #[.int .u8 d,.int .u32 j] 28 (0,0)) qq_1 hb) (Qfd qq_b hb);clear a HB;obtain⟨a,HB⟩:=n_;(try clear hb);(try clear hb2);(try clear hk);(try clear hi)))
  go_ret3
  exact⟨_,_,by first|rfl |(simp[Qik,Qil]<;>rfl) |(simp[*,Qik,Qil]<;>rfl),by first|exact Kd.R_nil _ _ _ _ _|exact Kd.N_nil _ _ _ _ _|exact Kd.V_nil _ _ _ _ _|exact Kd.Q_nil _ _ _ _ _|exact Kd.S_nil _ _ _ _ _,by first|exact Kd.R_nil _ _ _ _ _|exact Kd.N_nil _ _ _ _ _|exact Kd.V_nil _ _ _ _ _|exact Kd.Q_nil _ _ _ _ _|exact Kd.S_nil _ _ _ _ _,qq_b⟩
def Qce.f(a0_0:Int)(a0_1:Int)(a1:Int):Option (Bool):=(Qbz.f a0_0 a0_1 ((a0_1-1)%4294967296)).bind fun bt195=>(if bt195.2.2.2.2.2=0 then((Qcb.f bt195.1 bt195.2.1 bt195.2.2.1 bt195.2.2.2.1 bt195.2.2.2.2.1 a1).bind fun t202=>(some (!t202)))else(some true))
theorem Qce.calls(d:Int)(a:Int)(a1:Int)(r:Bool)(w:World)(h:Qce.f d a a1=some r) :
  Calls Tryz.prog 60 #[.agg #[.int .u8 d,.int .u32 a],.int .i64 a1] w fun e w'=>e=.returned (.bool r)∧Below w.heap.size w w':=by
 have hu28:=Tryz.underlying28;have hu116:=Tryz.underlying116;have HB:=QA (Below.refl w.heap.size w);have H:((Qbz.f d a ((a-1)%4294967296)).bind fun bt195=>(if bt195.2.2.2.2.2=0 then((Qcb.f bt195.1 bt195.2.1 bt195.2.2.1 bt195.2.2.2.1 bt195.2.2.2.2.1 a1).bind fun p=>(some (!p)))else(some true)))=some r:=h;clear h;replace H:=Option.bind_eq_some_iff.mp H;obtain⟨⟨q,s,t,u,v,l⟩,B,H⟩:=H;replace H:(if l=0 then((Qcb.f q s t u v a1).bind fun p=>(some (!p)))else(some true))=some r:=H;have A3:=QA B;clear B
 by_cases c4:l=0
 ·rw[if_pos c4]at H;have E:(l == 0)=true:=beq_iff_eq.mpr c4;have G:(l != 0)=false:=bne_eq_false_iff_eq.mpr c4;clear c4;replace H:=Option.bind_eq_some_iff.mp H;obtain⟨p,D,H⟩:=H;have A5:=QA D;clear D;obtain rfl:=Option.some.inj H
  go_enter Tryz.func60,Tryz.ntmps60
  go_wp2_with (first |((with_reducible refine Qfn (N:=2) rfl ?_);refine qq_e 2 #[.int .u8 d,.int .u32 a] 28 ?_;intro b hg w6 hbox hb;have n_:=qn4 (Qfd qq_b hb) (hbox) (qq_s hg:w.heap.size≤b) (qq_s hg:w.heap.size≤b);clear HB;obtain⟨HB,c,x,y⟩:=n_;clear hb hbox hg;obtain⟨Z,aa⟩:=qc2 c.out;have ai:=Qdp c.out) |((with_reducible refine Qif (f:=56) rfl ?_);refine Qgi (some 12) rfl rfl Tryz.func56 qq_2 rfl #[.agg #[.int .u8 d,.int .u32 a],.int .u32 ((a-1)%4294967296)] rfl qq_0 ?_;(with_reducible refine(Qbz.calls d a ((a-1)%4294967296) q s t u v l _ A3.out).mono ?_);rintro e w8 ⟨rfl,hb⟩;refine⟨_,rfl,?_⟩;have n_:=qn2 (Qed (g:=b) (o:=.cells #[.int .u8 d,.int .u32 a] 28 (0,0)) qq_1 hb) (Qfd qq_b hb);clear c HB;obtain⟨c,HB⟩:=n_;(try clear hb);(try clear hb2);(try clear hk);(try clear hi)) |((with_reducible refine Qfn (N:=5) rfl ?_);refine qq_e 5 #[.int .u8 0,.int .u32 0,.int .u32 0,.int .i64 0,.int .i64 0] 116 ?_;intro j hg w9 hbox hb;have n_:=qn7 (Qed (g:=b) (o:=.cells #[.int .u8 d,.int .u32 a] 28 (0,0)) qq_1 hb) (Qfd qq_b hb) (hbox) (qq_s hg:w.heap.size≤j) (qq_s hg:w.heap.size≤j) ((by rw[hg];exact Nat.ne_of_lt (Qdn (g:=b) (o:=.cells #[.int .u8 d,.int .u32 a] 28 (0,0)) qq_1):b≠j)) ((by rw[hg];exact Nat.ne_of_gt (Qdn (g:=b) (o:=.cells #[.int .u8 d,.int .u32 a] 28 (0,0)) qq_1):j≠b));clear c HB;obtain⟨c,HB,k,z,A,m,n⟩:=n_;clear hb hbox hg;have ab:=n.out;have ac:=m.out;obtain⟨I,J,K,L,M⟩:=qc5 k.out;have ad:=Qdp k.out) |(go_at_call 106;(with_reducible refine(Qcb.calls q s t u v a1 p _ A5.out).mono ?_);rintro e aj ⟨rfl,hb⟩;have n_:=qn3 (Qed (g:=b) (o:=.cells #[.int .u8 d,.int .u32 a] 28 (0,0)) qq_8 hb) (Qed (g:=j) (o:=.cells #[.int .u8 q,.int .u32 s,.int .u32 t,.int .i64 u,.int .i64 v] 116 (0,0)) qq_x hb) (Qfd qq_b hb);clear c k HB;obtain⟨c,k,HB⟩:=n_;(try clear hb);(try clear hb2);(try clear hk);(try clear hi)))
  go_ret
  exact⟨qq_5,qq_b⟩
 ·rw[if_neg c4]at H;have E:(l == 0)=false:=beq_eq_false_iff_ne.mpr c4;have G:(l != 0)=true:=bne_iff_ne.mpr c4;obtain rfl:=Option.some.inj H
  go_enter Tryz.func60,Tryz.ntmps60
  go_wp2_with (first |((with_reducible refine Qfn (N:=2) rfl ?_);refine qq_e 2 #[.int .u8 d,.int .u32 a] 28 ?_;intro b hg ak hbox hb;have n_:=qn4 (Qfd qq_b hb) (hbox) (qq_s hg:w.heap.size≤b) (qq_s hg:w.heap.size≤b);clear HB;obtain⟨HB,c,x,y⟩:=n_;clear hb hbox hg;obtain⟨O,P⟩:=qc2 c.out;have ae:=Qdp c.out) |((with_reducible refine Qif (f:=56) rfl ?_);refine Qgi (some 12) rfl rfl Tryz.func56 qq_2 rfl #[.agg #[.int .u8 d,.int .u32 a],.int .u32 ((a-1)%4294967296)] rfl qq_0 ?_;(with_reducible refine(Qbz.calls d a ((a-1)%4294967296) q s t u v l _ A3.out).mono ?_);rintro e al ⟨rfl,hb⟩;refine⟨_,rfl,?_⟩;have n_:=qn2 (Qed (g:=b) (o:=.cells #[.int .u8 d,.int .u32 a] 28 (0,0)) qq_1 hb) (Qfd qq_b hb);clear c HB;obtain⟨c,HB⟩:=n_;(try clear hb);(try clear hb2);(try clear hk);(try clear hi)) |((with_reducible refine Qfn (N:=5) rfl ?_);refine qq_e 5 #[.int .u8 0,.int .u32 0,.int .u32 0,.int .i64 0,.int .i64 0] 116 ?_;intro j hg am hbox hb;have n_:=qn7 (Qed (g:=b) (o:=.cells #[.int .u8 d,.int .u32 a] 28 (0,0)) qq_1 hb) (Qfd qq_b hb) (hbox) (qq_s hg:w.heap.size≤j) (qq_s hg:w.heap.size≤j) ((by rw[hg];exact Nat.ne_of_lt (Qdn (g:=b) (o:=.cells #[.int .u8 d,.int .u32 a] 28 (0,0)) qq_1):b≠j)) ((by rw[hg];exact Nat.ne_of_gt (Qdn (g:=b) (o:=.cells #[.int .u8 d,.int .u32 a] 28 (0,0)) qq_1):j≠b));clear c HB;obtain⟨c,HB,k,z,A,m,n⟩:=n_;clear hb hbox hg;have af:=n.out;have ag:=m.out;obtain⟨T,U,W,X,Y⟩:=qc5 k.out;have ah:=Qdp k.out))
  go_ret
  exact⟨qq_5,qq_b⟩
end Go.Proofs.YteaocbonofboeaaGreat.C
end
section
namespace Go.Proofs.YteaocbonofboeaaGreat.C
open Go.RowKit Go.Proofs.YteaocbonofboeaaGreatW.PrintWords Go.Proofs.YteaocbonofboeaaGreatW.PrintLast Go.Proofs.YteaocbonofboeaaGreatW.PrintMore
theorem f_of_C{W:World}{A:Option Addr}{n:Nat}{xs:List Int}(h:Kd.C (Kd.int .u8) W A n xs):Kd.F (Kd.int .u8) W (fun _=>True) A n xs:=by
 intro W' hW;obtain⟨g,hg⟩:∃g,g=W.heap.size+(match A with|some ad=>ad.block+1|none=>0):=⟨_,rfl⟩;refine Kd.C_keep (g:=g) (0:Int) h ⟨?_,fun i hi _ _=>hW i trivial hi⟩ ?_
 ·rcases Nat.eq_zero_or_pos W.heap.size with h0|h0
  ·omega
  ·have:=Qhr (hW (W.heap.size-1) trivial (by omega)) (by omega);omega
 ·rintro ad rfl _;rw[hg];dsimp only;omega
theorem Qou{w W:World}{tb:Nat}{x:Int}(hk:W.heap[tb]? = some (.cells #[.int .u64 x] 35 (0,0))):W.frozen? ⟨tb,0,none⟩=false∧W.cell? ⟨tb,0,none⟩=some (.int .u64 x):=⟨Qdp hk 0,(Qdo hk 0).trans rfl⟩
theorem Qov(as_:Array Value)(W:World):(callFunc 170 as_).run Tryz.prog W=.ok (.enter 170 as_) W:=by
 simp[callFunc,Tryz.func170,Tryz.f170]
theorem IsCur.far64{W:World}{b g tb j:Nat}{bs:List Int}{i:Int}{u:Value}{cs:Array Value}(h:IsCur W b g bs i)(hr:W.heap[tb]? = some (.cells cs 35 (0,0))):IsCur (W.setCell ⟨tb,j,none⟩ u) b g bs i:=by
 obtain⟨v,h1,h2⟩:=h;exact⟨v,Qdm h1 (p:=⟨tb,j,none⟩) (Qdr h1 hr (by decide)) u,h2.set hr (by decide) j u⟩
theorem Qow(tb lo g:Nat)(bs:List Int)(x y:Int)(hb:CodecP.Bytes bs)(hl8:bs.length=8)(hlg:lo≤g)(htb:tb<lo)(hx:CodecP.leI bs=x)(w:World)(hI:IsCur w lo g bs 0)
  (hk:w.heap[tb]? = some (.cells #[.int .u64 y] 35 (0,0))) :
  Calls Tryz.prog 170 #[.pointer (some ⟨g,0,none⟩),.pointer (some ⟨tb,0,none⟩)] w fun e W'=>e=.returned (.tuple #[])∧IsCur W' lo g bs (0+8)∧Tl lo g w W'∧Below tb w W'∧W'.heap[tb]? = some (.cells #[.int .u64 x] 35 (0,0)):=by
 have HI:=QA hI;have HK:=QA hk;have hlw:lo≤w.heap.size:=Nat.le_of_lt (Nat.lt_of_le_of_lt hlg hI.lt);have HE:=QA (Qoi (bs.length+1) lo g bs bs 0 x (by rw[Int.toNat_zero,List.drop_zero,← hl8,List.take_length]) (Int.le_refl _) (by omega) (by omega) hlg (by rw[CodecP.num_key bs hb (by omega),hx]) w hlw hI);clear hI hk
 go_enter Tryz.func170,Tryz.ntmps170
 go_wp2_with (go_at_call 171;refine HE.out.mono ?_;rintro ee w1 ⟨rfl,hI1,hB1⟩;have k1:=(hB1.1.block tb htb).trans HK.out;obtain⟨t0,t1⟩:=Qou (w:=w) k1)
 go_end0
 obtain⟨h1,h2⟩:=hB1;exact⟨rfl,hI1.far64 k1,fun k cs t q1 q2 q3 q4=>Qdm (h2 _ _ _ q2 q3 q4) (p:=⟨tb,0,none⟩) (by show k≠tb;omega) _,Qjk (Qjl h1 (Nat.le_of_lt htb)) (Nat.le_refl _),Qdl k1 0 _⟩
theorem Qox(A0:Option Addr)(c0:Nat)(l0:List Int)(x:Int)(tb:Nat)(w:World)(hb:CodecP.Bytes l0)(hl:l0.length=8)(hx:CodecP.leI l0=x)(hr0:Kd.C (Kd.int .u8) w A0 l0.length l0)
  (hk:w.heap[tb]? = some (.cells #[.int .u64 0] 35 (0,0))) :
  Calls Tryz.prog 169 #[.slice A0 l0.length c0,.func (.func 170) #[] #[.pointer (some ⟨tb,0,none⟩)]] w fun e w'=>∃er i,e=.returned (.tuple #[.int .i64 i,.int .i64 er])∧Below tb w w' ∧
   w'.heap[tb]? = some (.cells #[.int .u64 x] 35 (0,0)):=by
 have hlt:=Qdn hk;refine Qot 170 #[.pointer (some ⟨tb,0,none⟩)] A0 c0 l0 w hr0 (by omega) Qov (fun er _ W'=>Below tb w W'∧W'.heap[tb]? = some (.cells #[.int .u64 x] 35 (0,0))) ?_ ?_
 ·rintro er i W W' ⟨h1,h2⟩ h3;exact⟨h1.trans (Qjl h3 (Nat.le_of_lt hlt)),(h3.block tb hlt).trans h2⟩
 ·intro W g hg hB hI;refine(Qow tb w.heap.size g l0 x 0 hb hl hg hlt hx W hI ((hB.block tb hlt).trans hk)).mono ?_;rintro e W' ⟨h1,h2,h3,h4,h5⟩;exact⟨_,h2,h3,.inl ⟨h1,(Qjl hB (Nat.le_of_lt hlt)).trans h4,h5⟩⟩
theorem Qoy{P:Program}(t e:TypeId)(k:IntKind){i:TypeInfo}(ht:P.underlying t=some (.slice e))(hi:P.info? e=some i)(A:Option Addr)(n c:Nat)(j:Int)(h0:0≤j)(hm:j≤n)(hc:n≤c) :
  ∀W:World,(Instr.slice t (.slice A n c) none (some (.int k j)) (some (.int k j))).run P W=.ok (.slice A j.toNat j.toNat) W:=by
 intro W;have hel:P.elem t=e:=by simp[Program.elem,ht]
 have hu:P.underlying t=some (.slice (P.elem t)):=by rw[hel];exact ht
 have ha:(A.map fun x=>x.add 0)=A:=by cases A<;>simp[Addr.add]
 rw[run_slice_hm W t A n c hu k k j j h0 (Int.le_refl _) (by omega),hel];simp[sizeOf,typeInfo,hi,sliced,Result.andThen,ha]
def openS(t:List Int):List Int × Int:=if t.length<8 then([],2)else if CodecP.leI (t.drop (t.length-8))=Qlz 0 (t.take (t.length-8))then(t.take (t.length-8),0)else([],5)
noncomputable def Qbr.f(k:Nat)(l0:List Int):Option (List Int × Int):=(Qan.f k l0).bind fun t=>if t.2=0 then @ite _ (CodecP.Bytes t.1∧t.1.length≤35184372088824) (Classical.propDecidable _) (some (openS t.1)) none else some ([],t.2)
theorem Qbr.calls(k:Nat)(A0:Option Addr)(c0:Nat)(l0:List Int)(r1:List Int)(r2:Int)(w:World)(hr0:Kd.C (Kd.int .u8) w A0 l0.length l0)(hc0:l0.length≤c0)(h:Qbr.f k l0=some (r1,r2)) :
  Calls Tryz.prog 120 #[.slice A0 l0.length c0] w fun e w'=>∃A c,e=.returned (.tuple #[.slice A r1.length c,.int .i64 r2])∧Kd.C (Kd.int .u8) w' A r1.length r1∧r1.length≤c∧Below w.heap.size w w':=by
 unfold Qbr.f at h;obtain⟨⟨out,e0⟩,hU,h⟩:=Option.bind_eq_some_iff.mp h;dsimp only at h;have HU:=QA (Qan.calls k (fun _=>True) A0 c0 l0 out e0 w (Kd.V_mk hc0 (f_of_C hr0)) hU);clear hU hr0 hc0
 by_cases he:e0=0
 ·subst he;rw[if_pos rfl]at h
  by_cases hg:CodecP.Bytes out∧out.length≤35184372088824
  ·rw [if_pos hg]at h;have h2:=Option.some.inj h;unfold openS at h2;clear h
   by_cases h8:out.length<8
   ·rw[if_pos h8]at h2;obtain⟨rfl,rfl⟩:=Prod.mk.inj h2;have hw1:IntKind.i64.wrap ((out.length:Int)-8)=(out.length:Int)-8:=IntWalk.i64_in _ (by omega);have hb1:decide ((out.length:Int)-8<0)=true:=decide_eq_true (by omega);clear h2
    go_enter Tryz.func120,Tryz.ntmps120
    go_wp2_with (go_at_call 168;refine HU.out.mono ?_;rintro ee w1 ⟨v1,rfl,hR1,hb1⟩;obtain⟨A1,c1,rfl⟩:=Kd.R_slice hR1)
    refine bodyPost_ret (results_tmp2 rfl _ _ _) rfl ?_;exact⟨none,0,rfl,Kd.C_nil _ _,Nat.le_refl _,hb1⟩
   ·rw[if_neg h8]at h2;obtain⟨m,hm⟩:∃m,m=out.length-8:=⟨_,rfl⟩;rw[← hm]at h2;obtain⟨xs,hxs⟩:∃xs,xs=out.drop m:=⟨_,rfl⟩;rw[← hxs]at h2;have hxl:xs.length=8:=by rw[hxs,List.length_drop];omega
    obtain⟨ys,hys⟩:∃ys,ys=out.take m:=⟨_,rfl⟩;rw[← hys]at h2;have hyl:ys.length=m:=by rw[hys,List.length_take];omega
    obtain⟨j,hj⟩:∃j:Int,j=(out.length:Int)-8:=⟨_,rfl⟩;have hw1:IntKind.i64.wrap ((out.length:Int)-8)=j:=by rw[hj];exact IntWalk.i64_in _ (by omega)
    have hj0:0≤j:=by omega
    have hjm:j.toNat=m:=by omega
    have hb1:decide (j<0)=false:=decide_eq_false (by omega);have HXB:Aside0 (CodecP.Bytes xs):=⟨by rw[hxs];exact hg.1.drop _⟩;have HF:=QA (And.intro hm (And.intro hxs (And.intro hys hj)));have HG:=QA hg;obtain⟨i0,hii,_,hsz,_⟩:=info_parts Qim;have hlen64:IntKind.i64.wrap (out.length:Int)=(out.length:Int):=IntWalk.i64_in _ (by omega);obtain⟨x,hx⟩:∃x,x=CodecP.leI xs:=⟨_,rfl⟩;rw[← hx]at h2;have HX:=QA hx.symm;have HJL:Aside0 (j≤(out.length:Int)):=⟨by omega⟩;clear hx hm hxs hys hj hg;have UP:∀(P:Ending→World→Prop),(∀ee w1 A1 c1,ee=.returned (.tuple #[.slice A1 out.length c1,.int .i64 0])→R8 w1 w.heap.size (.slice A1 out.length c1) out→Below w.heap.size w w1 →
      (∀W:World,(Instr.slice 40 (.slice A1 out.length c1) none (some (.int .i64 j)) none).run Tryz.prog W=.ok (.slice A1 ys.length c1) W) →
      (∀W:World,(Instr.slice 40 (.slice A1 out.length c1) none (some (.int .i64 j)) (some (.int .i64 j))).run Tryz.prog W=.ok (.slice A1 ys.length ys.length) W) →
      (∃A2 c2,(∀W:World,(Instr.slice 40 (.slice A1 out.length c1) (some (.int .i64 j)) none none).run Tryz.prog W=.ok (.slice A2 xs.length c2) W)∧Kd.C (Kd.int .u8) w1 A2 xs.length xs)→Kd.C (Kd.int .u8) w1 A1 ys.length ys→P ee w1) →
      Calls Tryz.prog 168 #[.slice A0 l0.length c0] w P:=by
     intro P hP;refine HU.out.mono ?_;rintro ee w1 ⟨v1,rfl,hR1,hb1⟩;obtain⟨A1,c1,rfl⟩:=Kd.R_slice hR1;obtain⟨_,hlc,hC1⟩:=Kd.R_reads' hR1;have e1:=Qeo (P:=Tryz.prog) 40 5 .i64 Tryz.underlying40 hii A1 out.length c1 j hj0 HJL.out hlc;have e2:=Qoy (P:=Tryz.prog) 40 5 .i64 Tryz.underlying40 hii A1 out.length c1 j hj0 HJL.out hlc;have e3:=Qep (P:=Tryz.prog) 40 5 .i64 Tryz.underlying40 hii 1 hsz A1 out.length c1 j hj0 HJL.out;have hml:m≤out.length:=by have:=HJL.out;omega
     have hC2:=Kd.C_drop (m:=m) hC1 hml hlc;have hC3:=Kd.C_take (m:=m) hC1 hml;rw[hjm,← hyl]at e1 e2;rw[← HF.out.2.2.1]at hC3;rw[← HF.out.2.1]at hC2;rw[hjm,show out.length-m=xs.length by rw[HF.out.2.1,List.length_drop]]at e3;exact hP _ w1 A1 c1 rfl (Kd.R_mono hR1 (fun _ _=>trivial)) hb1 e1 e2 ⟨_,_,e3,hC2⟩ hC3
    have UPA:=QA UP;have hyl2:ys.length≤140737488355328:=by have:=HG.out.2;have:=HJL.out;omega
    have HL:=QA (And.intro hyl (And.intro hjm (And.intro hxl hyl2)));have H2:=QA h2;clear UP HU HG HF hlen64 hyl hjm hxl hyl2 hii hsz h2;have stp:∀(P:Ending→World→Prop),(∀w' A c,Below w.heap.size w w'→Kd.C (Kd.int .u8) w' A ys.length ys→ys.length≤c→x=Qlz 0 ys→P (.returned (.tuple #[.slice A ys.length c,.int .i64 0])) w') →
      (∀w',Below w.heap.size w w'→x≠Qlz 0 ys→P (.returned (.tuple #[.slice none 0 0,.int .i64 5])) w')→Calls Tryz.prog 120 #[.slice A0 l0.length c0] w P:=by
     intro P hP1 hP2
     by_cases hh:x=Qlz 0 ys
     ·have hne:(x != Qlz 0 ys)=false:=bne_eq_false_iff_eq.2 hh
      go_enter Tryz.func120,Tryz.ntmps120
      go_upto_region 7 with(go_at_call 168;refine UPA.out _ ?_;rintro ee w1 A1 c1 rfl hR1 hb1 e1 e2 ⟨A2,c2,e3,hC2⟩ hC3;have n:=QA hR1;have a:=QA hb1;have d:=QA hC2;have b:=QA hC3;clear hR1 hb1 hC2 hC3)
      have kt:=Qee w1 (.cells #[.int .u64 0] 35 (0,0));have RUN:=QA (Qox A2 c2 xs x w1.heap.size _ HXB.out HL.out.2.2.1 HX.out (Kd.C_below d.out (Qcp (Below.refl _ _) _)) kt)
      go_upto_region 9 with(go_at_call 169;refine RUN.out.mono ?_;rintro ee w3 ⟨er,i,rfl,hb3,hk3⟩)
      have t3:=(Qou (w:=w) hk3).2;have g:=(Qou (w:=w) (show w3.drew.heap[w1.heap.size]? = some (.cells #[.int .u64 x] 35 (0,0)) from hk3)).2;have b13:Below w1.heap.size w1 w3:=(Qcp (Below.refl _ _) _).trans hb3;have l:=QA (Kd.C_below b.out (b13.trans (Qjl (Qcq (Below.refl _ _)) b13.size)));have B13:=QA (b13.trans (Qjl (Qcq (Below.refl w3.heap.size w3)) b13.size))
      go_region_held3 (fun w'=>w'.cell? ⟨w1.heap.size,0,none⟩=some (.int .u64 x)) (first|exact g|exact t4) (first |(go_at_call 107;refine(Qmb 0 A1 c1 ys _ l.out HL.out.2.2.2).mono ?_;rintro e w4 ⟨rfl,hb4⟩;have B14:=QA (B13.out.trans (Qjl hb4 B13.out.size));have t4:=(Qou (w:=w) ((hb4.block w1.heap.size (Qdn (show w3.drew.heap[w1.heap.size]? = some (.cells #[.int .u64 x] 35 (0,0)) from hk3))).trans (show w3.drew.heap[w1.heap.size]? = some (.cells #[.int .u64 x] 35 (0,0)) from hk3))).2))
      go_wp2_with fail
      have BB:=a.out.trans (Qjl B14.out a.out.size);exact hP1 _ _ _ BB (Kd.C_below b.out B14.out) (Nat.le_refl _) hh
     ·have hne:(x != Qlz 0 ys)=true:=bne_iff_ne.2 hh
      go_enter Tryz.func120,Tryz.ntmps120
      go_upto_region 7 with(go_at_call 168;refine UPA.out _ ?_;rintro ee w1 A1 c1 rfl hR1 hb1 e1 e2 ⟨A2,c2,e3,hC2⟩ hC3;have n:=QA hR1;have a:=QA hb1;have d:=QA hC2;have b:=QA hC3;clear hR1 hb1 hC2 hC3)
      have kt:=Qee w1 (.cells #[.int .u64 0] 35 (0,0));have RUN:=QA (Qox A2 c2 xs x w1.heap.size _ HXB.out HL.out.2.2.1 HX.out (Kd.C_below d.out (Qcp (Below.refl _ _) _)) kt)
      go_upto_region 9 with(go_at_call 169;refine RUN.out.mono ?_;rintro ee w3 ⟨er,i,rfl,hb3,hk3⟩)
      have t3:=(Qou (w:=w) hk3).2;have g:=(Qou (w:=w) (show w3.drew.heap[w1.heap.size]? = some (.cells #[.int .u64 x] 35 (0,0)) from hk3)).2;have b13:Below w1.heap.size w1 w3:=(Qcp (Below.refl _ _) _).trans hb3;have l:=QA (Kd.C_below b.out (b13.trans (Qjl (Qcq (Below.refl _ _)) b13.size)));have B13:=QA (b13.trans (Qjl (Qcq (Below.refl w3.heap.size w3)) b13.size))
      go_region_held3 (fun w'=>w'.cell? ⟨w1.heap.size,0,none⟩=some (.int .u64 x)) (first|exact g|exact t4) (first |(go_at_call 107;refine(Qmb 0 A1 c1 ys _ l.out HL.out.2.2.2).mono ?_;rintro e w4 ⟨rfl,hb4⟩;have B14:=QA (B13.out.trans (Qjl hb4 B13.out.size));have t4:=(Qou (w:=w) ((hb4.block w1.heap.size (Qdn (show w3.drew.heap[w1.heap.size]? = some (.cells #[.int .u64 x] 35 (0,0)) from hk3))).trans (show w3.drew.heap[w1.heap.size]? = some (.cells #[.int .u64 x] 35 (0,0)) from hk3))).2))
      go_wp2_with fail
      have BB:=a.out.trans (Qjl B14.out a.out.size);exact hP2 _ BB hh
    refine stp _ ?_ ?_
    ·intro w' A c h1 h3 h4 h5;have h6:=H2.out;rw[if_pos h5]at h6;obtain⟨rfl,rfl⟩:=Prod.mk.inj h6;exact⟨A,c,rfl,h3,h4,h1⟩
    ·intro w' h1 h5;have h6:=H2.out;rw[if_neg h5]at h6;obtain⟨rfl,rfl⟩:=Prod.mk.inj h6;exact⟨none,0,rfl,Kd.C_nil _ _,Nat.le_refl _,h1⟩
  ·rw[if_neg hg]at h;cases h
 ·rw[if_neg he]at h;simp only[Option.some.injEq,Prod.mk.injEq]at h;obtain⟨rfl,rfl⟩:=h;have hne:(e0 != 0)=true:=bne_iff_ne.2 he
  go_enter Tryz.func120,Tryz.ntmps120
  go_wp2_with (go_at_call 168;refine HU.out.mono ?_;rintro ee w1 ⟨v1,rfl,hR1,hb1⟩;obtain⟨A1,c1,rfl⟩:=Kd.R_slice hR1)
  refine bodyPost_ret (results_tmp2 rfl _ _ _) rfl ?_;exact⟨none,0,rfl,Kd.C_nil _ _,Nat.le_refl _,hb1⟩
end Go.Proofs.YteaocbonofboeaaGreat.C
end
