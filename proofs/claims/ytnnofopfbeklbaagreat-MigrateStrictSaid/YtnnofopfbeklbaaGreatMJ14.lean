/- Merged texts. -/
import Derived.Test.YtnnofopfbeklbaaGreatMJ01
import Derived.Test.YtnnofopfbeklbaaGreatMJ13
import Derived.Test.YtnnofopfbeklbaaGreatMJ03
import Derived.Test.YtnnofopfbeklbaaGreatMJ07
import Derived.Test.YtnnofopfbeklbaaGreatMJ08
import Derived.Test.YtnnofopfbeklbaaGreatMJ04
import Derived.Test.YtnnofopfbeklbaaGreatMJ09
import Derived.Test.YtnnofopfbeklbaaGreatMJ05
set_option linter.unusedVariables false
set_option linter.unusedSimpArgs false
set_option maxHeartbeats 8000000
set_option maxRecDepth 100000
section
namespace Go.Proofs.YtnnofopfbeklbaaGreat.C
open Go.RowKit Go.Proofs.YtnnofopfbeklbaaGreatW.PrintWords Go.Proofs.YtnnofopfbeklbaaGreatW.PrintLast Go.Proofs.YtnnofopfbeklbaaGreatW.PrintMore
attribute [local go_sem] Qjk Qjl Qjm Qjn Qjo Qjp Qjq Qjr
def Qbr.l0:Nat→ByteArray→List (S210)→Int→Option ((List (S210)) × Int × Int)
 | 0,_,_,_=>none
 | k+1,x0,x5,x6=>if x6<(x0.size:Int)then(if 0≤x6 then(if x6≤(x0.size:Int)then((Qbq.f k (x0.extract (x6:Int).toNat x0.size)).bind fun bt782=>(if bt782.2.2.2=0 then(if x5.length<4398046511104 then(Qbr.l0 k x0 (x5++[(⟨bt782.1,bt782.2.1⟩:S210)]) (wrap64 (x6+bt782.2.2.1)))else(none))else(some (x5,x6,bt782.2.2.2))))else(none))else(none))else(some (x5,x6,0))
def Qbr.f(k:Nat)(a0:ByteArray):Option ((List (S210)) × Int × Int):=Qbr.l0 k a0 ([]:List (S210)) 0
theorem Qbr.calls (k:Nat) (a0:ByteArray) (r1:List (S210)) (r2:Int) (r3:Int) (w:World) (h:Qbr.f k a0=some (r1,r2,r3)) :
  Calls Tryz.prog 88 #[.string a0] w fun e w'=>∃A:Value,e=.returned (.tuple #[A,.int .i64 r2,.int .i64 r3])∧Kd.R k210 210 w' w.heap.size (fun _=>True) A r1∧Below w.heap.size w w':=by
 have hu210:=Tryz.underlying210;have HB:=QA (Below.refl w.heap.size w);have H:(Qbr.l0 k a0 ([]:List (S210)) 0)=some (r1,r2,r3):=h;clear h;have H':=QA H;clear H
 go_enter Tryz.func88,Tryz.ntmps88
 go_wp2
 go_loopg [5,6] k (fun kq v5 v6 w'=>∃(m:List (S210)) (c:Int),v6=.int .i64 c∧Aside0 (Qbr.l0 kq a0 m c=some (r1,r2,r3))∧Aside0 (kq≤k)∧Aside0 (Kd.R k210 210 w' w.heap.size (fun _=>True) v5 m)∧Aside0 (Below w.heap.size w w'))
 case atStart=>exact⟨(([]:List (S210))),(0),qq_8,H',⟨Nat.le_refl _⟩,⟨by first|exact Kd.R_nil _ _ _ _ _|exact Kd.N_nil _ _ _ _ _|exact Kd.V_nil _ _ _ _ _|exact Kd.Q_nil _ _ _ _ _|exact Kd.S_nil _ _ _ _ _⟩,⟨qq_b⟩⟩
 case round =>
  clear H';obtain⟨m,c,rfl,HA,HK1,d,HB⟩:=hrel
  cases gk with
  | zero=>exact absurd HA.out (by simp[Qbr.l0])
  | succ k1 =>
   have H:=HA.out;clear HA;simp only[Qbr.l0]at H
   by_cases c2:c<(a0.size:Int)
   ·rw [if_pos c2]at H;have D:decide (c<(a0.size:Int))=true:=decide_eq_true c2;clear c2
    by_cases c3:0≤c
    ·rw [if_pos c3]at H;have T:=eq_true c3;have U:decide (0≤c)=true:=decide_eq_true c3;clear c3
     by_cases c4:c≤(a0.size:Int)
     ·rw[if_pos c4]at H;have W:=eq_true c4;have X:decide (c≤(a0.size:Int))=true:=decide_eq_true c4;clear c4;replace H:=Option.bind_eq_some_iff.mp H;obtain⟨⟨j,l,s,n⟩,B,H⟩:=H;replace H:(if n=0 then(if m.length<4398046511104 then(Qbr.l0 k1 a0 (m++[(⟨j,l⟩:S210)]) (wrap64 (c+s)))else(none))else(some (m,c,n)))=some (r1,r2,r3):=H;have A5:=QA B;clear B
      by_cases c6:n=0
      ·rw[if_pos c6]at H;have E:(n == 0)=true:=beq_iff_eq.mpr c6;have G:(n != 0)=false:=bne_eq_false_iff_eq.mpr c6;clear c6
       by_cases c7:m.length<4398046511104
       ·rw[if_pos c7]at H;have I:=QA c7;clear c7;obtain⟨t,r⟩:∃y_:List (S210),y_=(m++[(⟨j,l⟩:S210)]):=⟨_,rfl⟩;replace H:(Qbr.l0 k1 a0 t (wrap64 (c+s)))=some (r1,r2,r3):=by first |(rw[r];with_reducible exact H) |(have u:=(Option.bind_some _ _).symm.trans H;rw[r];with_reducible exact u) |(have u:=(Option.bind_some _ _).symm.trans H;with_reducible exact u)|with_reducible exact H |(rw[r];exact H)|exact H
        have v:=QA r;clear r;have H':=QA H;clear H
        go_wp2_with (first |((with_reducible refine Qjs (f:=142) rfl ?_);refine Qhs (some 18) rfl rfl Tryz.func142 qq_7 rfl #[.string (a0.extract (c:Int).toNat a0.size)] rfl qq_1 ?_;(with_reducible refine(Qbq.calls k1 (a0.extract (c:Int).toNat a0.size) j l s n _ A5.out).mono ?_);rintro e w8 ⟨rfl,hb⟩;refine⟨_,rfl,?_⟩;have n_:=qn2 (Kd.R_below qq_3 hb) (Qgi qq_b hb);clear d HB;obtain⟨d,HB⟩:=n_;(try clear hb);(try clear hb2);(try clear hk);(try clear hi)) |((with_reducible refine Qgt (N:=7) rfl ?_);refine qq_e 7 #[.string (⟨#[]⟩:ByteArray),.string (⟨#[]⟩:ByteArray)] 210 ?_;intro a hg w9 hbox hb;have n_:=qn5 (Kd.R_below (Kd.R_elderB qq_3 a (Nat.le_of_eq hg.symm)) hb) (Qgi qq_b hb) (hbox) (qq_s hg:w.heap.size≤a) (qq_s hg:w.heap.size≤a);clear d HB;obtain⟨d,HB,q,x,y⟩:=n_;clear hb hbox hg;obtain⟨J,K⟩:=qc2 q.out;have O:=Qep q.out) |((with_reducible refine Qjt (b:=.append) (xs:=#[.tmp 27,.tmp 29]) rfl ?_);at_builtin;refine Kd.R_append k210 (w0:=w) w.heap.size rfl (.tmp 27) (.tmp 29) 153 210 (.agg #[(.string ⟨#[]⟩),(.string ⟨#[]⟩)]) 32 rfl Tryz.underlying153 info210 rfl (by decide) (by omega) u5 m (⟨j,l⟩:S210) [.string j,.string l] (fun k_=>k_≠a) (fun _=>False) rfl qq_12 ?aP (fun _ hk=>hk.elim) ?aF ?aO ?aB ?aS ?aL ?_;(case aP=>exact Qkz _ _ _ (⟨j,l⟩:S210));(case aB=>exact qq_b);(case aF=>exact(fun k_ hk=>Kd.freshB (g:=a) (o:=.cells #[.string j,.string l] 210 (0,0)) qq_x k_ hk));(case aO=>exact(by(with_reducible repeat(first|apply Kd.R_alloc|apply Kd.R_drewN|apply Kd.R_drew));exact Kd.R_mono (Kd.R_far (p:=⟨a,1,none⟩) (Kd.R_far (p:=⟨a,0,none⟩) (Kd.R_mono d.out (fun k_ hk=>(⟨hk,hk.2⟩:_∧k_≠a))) (fun _ hk=>hk.2) (.string j)) (fun _ hk=>hk.2) (.string l)) (fun _ hk=>hk.1.2)));(case aS=>exact(Qgh qq_b));(case aL=>have:=I.out;omega);intro Y Z ho hb hg hat;rw[← v.out]at ho;have n_:=qn3 (Qeq (g:=a) (o:=.cells #[.string j,.string l] 210 (0,0)) qq_x hg (Kd.R_away d.out (fun _ hk=>hk.2))) (hb) (ho);clear q HB d;obtain⟨q,HB,z⟩:=n_;clear ho hb hg hat))
        go_roundg k1
        case measure=>have:=HK1.out;omega
        case rel=>exact⟨(t),(wrap64 (c+s)),qq_8,H',⟨by have:=HK1.out;omega⟩,⟨by(with_reducible repeat(first|apply Kd.R_alloc|apply Kd.R_drewN|apply Kd.R_drew));exact Kd.R_mono z.out (fun _ hk=>trivial)⟩,⟨qq_b⟩⟩
       ·rw[if_neg c7]at H;exact absurd H (by simp)
      ·rw[if_neg c6]at H;have E:(n == 0)=false:=beq_eq_false_iff_ne.mpr c6;have G:(n != 0)=true:=bne_iff_ne.mpr c6;simp only[Option.some.injEq,Prod.mk.injEq]at H;obtain⟨rfl,rfl,rfl⟩:=H
       go_wp2_with (first |((with_reducible refine Qjs (f:=142) rfl ?_);refine Qhs (some 18) rfl rfl Tryz.func142 qq_7 rfl #[.string (a0.extract (c:Int).toNat a0.size)] rfl qq_1 ?_;(with_reducible refine(Qbq.calls k1 (a0.extract (c:Int).toNat a0.size) j l s n _ A5.out).mono ?_);rintro e aa ⟨rfl,hb⟩;refine⟨_,rfl,?_⟩;have n_:=qn2 (Kd.R_below qq_3 hb) (Qgi qq_b hb);clear d HB;obtain⟨d,HB⟩:=n_;(try clear hb);(try clear hb2);(try clear hk);(try clear hi)) |((with_reducible refine Qgt (N:=7) rfl ?_);refine qq_e 7 #[.string (⟨#[]⟩:ByteArray),.string (⟨#[]⟩:ByteArray)] 210 ?_;intro a hg ab hbox hb;have n_:=qn5 (Kd.R_below (Kd.R_elderB qq_3 a (Nat.le_of_eq hg.symm)) hb) (Qgi qq_b hb) (hbox) (qq_s hg:w.heap.size≤a) (qq_s hg:w.heap.size≤a);clear d HB;obtain⟨d,HB,q,x,y⟩:=n_;clear hb hbox hg;obtain⟨L,M⟩:=qc2 q.out;have P:=Qep q.out))
       go_ret3
       exact⟨_,by first|rfl |(simp[Qjz,Qka]<;>rfl) |(simp[*,Qjz,Qka]<;>rfl),by(with_reducible repeat(first|apply Kd.R_alloc|apply Kd.R_drewN|apply Kd.R_drew));exact Kd.R_mono (Kd.R_far (p:=⟨a,1,none⟩) (Kd.R_far (p:=⟨a,0,none⟩) (Kd.R_mono d.out (fun k_ hk=>(⟨hk,hk.2⟩:_∧k_≠a))) (fun _ hk=>hk.2) (.string j)) (fun _ hk=>hk.2) (.string l)) (fun _ hk=>trivial),qq_b⟩
     ·rw[if_neg c4]at H;exact absurd H (by simp)
    ·rw[if_neg c3]at H;exact absurd H (by simp)
   ·rw[if_neg c2]at H;have D:decide (c<(a0.size:Int))=false:=decide_eq_false c2;clear c2;simp only[Option.some.injEq,Prod.mk.injEq]at H;obtain⟨rfl,rfl,rfl⟩:=H;go_wp2
    go_ret3
    exact⟨_,by first|rfl |(simp[Qjz,Qka]<;>rfl) |(simp[*,Qjz,Qka]<;>rfl),by(with_reducible repeat(first|apply Kd.R_alloc|apply Kd.R_drewN|apply Kd.R_drew));exact d.out,qq_b⟩
end Go.Proofs.YtnnofopfbeklbaaGreat.C
end
section
namespace Go.Proofs.YtnnofopfbeklbaaGreat.C
open Go.RowKit Go.Proofs.YtnnofopfbeklbaaGreatW.PrintWords Go.Proofs.YtnnofopfbeklbaaGreatW.PrintLast Go.Proofs.YtnnofopfbeklbaaGreatW.PrintMore
attribute [local go_sem] Qjk Qjl Qjm Qjn Qjo Qjp Qjq Qjr
attribute [local go_sem high] eqA122
def Qbt.l0:Nat→List (S122)→Bool→List (S122)→Int→Int→Int→Int→Option ((List (S122)))
 | 0,_,_,_,_,_,_,_=>none
 | k+1,x5,x6,x9,x10,x11,x425000,x425001=>if x11<x10 then(if 0≤x11 then(if x11<(x9.length:Int)then(if(((Qkt x9 x11).f0) == x425000 && (((Qkt x9 x11).f1) == x425001))=true then(if x5.length<8796093022208 then(Qbt.l0 k (x5++[(⟨(Qkt x9 x11).f0,(Qkt x9 x11).f1⟩:S122)]) true x9 x10 (wrap64 (x11+1)) x425000 x425001)else(none))else(if x6=true then(if x5.length<8796093022208 then(Qbt.l0 k (x5++[(⟨(Qkt x9 x11).f0,(Qkt x9 x11).f1⟩:S122)]) x6 x9 x10 (wrap64 (x11+1)) x425000 x425001)else(none))else((Qbw.f x425000 x425001 ((Qkt x9 x11).f0) ((Qkt x9 x11).f1)).bind fun t436=>(if t436=true then(if x5.length<8796093022208 then((some (x5++[(⟨x425000,x425001⟩:S122)]:List (S122))).bind fun y437=>(if y437.length<8796093022208 then(Qbt.l0 k (y437++[(⟨(Qkt x9 x11).f0,(Qkt x9 x11).f1⟩:S122)]) true x9 x10 (wrap64 (x11+1)) x425000 x425001)else(none)))else(none))else(if x5.length<8796093022208 then(Qbt.l0 k (x5++[(⟨(Qkt x9 x11).f0,(Qkt x9 x11).f1⟩:S122)]) x6 x9 x10 (wrap64 (x11+1)) x425000 x425001)else(none))))))else(none))else(none))else(if x6=true then(some x5)else(if x5.length<8796093022208 then(some (x5++[(⟨x425000,x425001⟩:S122)]))else(none)))
def Qbt.f(k:Nat)(l0:List (S122))(a1_0:Int)(a1_1:Int):Option ((List (S122))):=Qbt.l0 k ([]:List (S122)) false l0 (l0.length:Int) 0 a1_0 a1_1
theorem Qbt.calls (k:Nat) (A0:Option Addr) (c0:Nat) (l0:List (S122)) (c:Int) (d:Int) (r:List (S122)) (w:World) (hr0:Kd.C k122 w A0 l0.length l0) (hc0:l0.length≤c0) (h:Qbt.f k l0 c d=some r) :
  Calls Tryz.prog 110 #[.slice A0 l0.length c0,.agg #[.int .u64 c,.int .u32 d]] w fun e w'=>∃aE:Value,e=.returned (aE)∧Kd.R k122 122 w' w.heap.size (fun _=>True) aE r∧Below w.heap.size w w':=by
 have hu122:=Tryz.underlying122;have X:=QA hr0;have bY:=QA hc0;clear hr0 hc0;have HB:=QA (Below.refl w.heap.size w);have H:(Qbt.l0 k ([]:List (S122)) false l0 (l0.length:Int) 0 c d)=some r:=h;clear h;have H':=QA H;clear H
 go_enter Tryz.func110,Tryz.ntmps110
 go_wp2_with (first |((with_reducible refine Qgt (N:=3) rfl ?_);refine qq_e 3 #[.int .u64 c,.int .u32 d] 122 ?_;intro l hg w3 hbox hb;have n_:=qn4 (Qgi qq_b hb) (hbox) (qq_s hg:w.heap.size≤l) (qq_s hg:w.heap.size≤l);clear HB;obtain⟨HB,m,bs,bu⟩:=n_;clear hb hbox hg))
 go_loopg [5,6,11] k (fun kq v5 v6 br w'=>∃(q:List (S122)) (M:Bool) (a:Int),v6=.bool M∧br=.int .i64 a∧Aside0 (Qbt.l0 kq q M l0 (l0.length:Int) a c d=some r)∧Aside0 (kq≤k)∧Aside0 (Kd.R k122 122 w' w.heap.size (fun k_=>k_≠l) v5 q)∧Aside0 (w'.heap[l]? = some (.cells #[.int .u64 c,.int .u32 d] 122 (0,0)))∧Aside0 (Below w.heap.size w w'))
 case atStart=>exact⟨(([]:List (S122))),(false),(0),qq_8,qq_8,H',⟨Nat.le_refl _⟩,⟨by first|exact Kd.R_nil _ _ _ _ _|exact Kd.N_nil _ _ _ _ _|exact Kd.V_nil _ _ _ _ _|exact Kd.Q_nil _ _ _ _ _|exact Kd.S_nil _ _ _ _ _⟩,⟨by(with_reducible repeat(first|apply Qfc|apply Qfb|apply Qfa));exact m.out⟩,⟨qq_b⟩⟩
 case round =>
  clear H';obtain⟨q,M,a,rfl,rfl,HA,HK1,s,m,HB⟩:=hrel
  cases gk with
  | zero=>exact absurd HA.out (by simp[Qbt.l0])
  | succ k1 =>
   have H:=HA.out;clear HA;simp only[Qbt.l0]at H
   by_cases c4:a<(l0.length:Int)
   ·rw [if_pos c4]at H;have aH:decide (a<(l0.length:Int))=true:=decide_eq_true c4;clear c4
    by_cases c5:0≤a
    ·rw [if_pos c5]at H;have bQ:decide (0≤a)=true:=decide_eq_true c5;clear c5
     by_cases c6:a<(l0.length:Int)
     ·rw [if_pos c6]at H;have bR:decide (a<(l0.length:Int))=true:=decide_eq_true c6;clear c6
      by_cases c7:(((Qkt l0 a).f0) == c && (((Qkt l0 a).f1) == d))=true
      ·rw[if_pos c7]at H;have aI:(((Qkt l0 a).f0) == c && (((Qkt l0 a).f1) == d))=true:=c7
       (try(have aJ:decide (((Qkt l0 a).f0)=c && (((Qkt l0 a).f1) == d))=true:=by simpa using c7))
       (try(have aK:(((Qkt l0 a).f0) == c && (((Qkt l0 a).f1) == d))=true:=by simpa using c7))
       clear c7
       by_cases c8:q.length<8796093022208
       ·rw[if_pos c8]at H;have aM:=QA c8;clear c8;obtain⟨ag,E⟩:∃y_:List (S122),y_=(q++[(⟨(Qkt l0 a).f0,(Qkt l0 a).f1⟩:S122)]):=⟨_,rfl⟩;replace H:(Qbt.l0 k1 ag true l0 (l0.length:Int) (wrap64 (a+1)) c d)=some r:=by first |(rw[E];with_reducible exact H) |(have v:=(Option.bind_some _ _).symm.trans H;rw[E];with_reducible exact v) |(have v:=(Option.bind_some _ _).symm.trans H;with_reducible exact v)|with_reducible exact H |(rw[E];exact H)|exact H
        have al:=QA E;clear E;have H':=QA H;clear H;have z:0≤(a:Int):=of_decide_eq_true qq_6;have A:a<(l0.length:Int):=of_decide_eq_true qq_6;obtain⟨O,D,t,u⟩:=Qku X.out a z A
        cases D
        replace t:=qq_h HB.out t;replace u:=qq_h HB.out u;replace z:=eq_true z;replace A:=eq_true A
        go_wp2_with (first |((with_reducible refine Qgt (N:=8) rfl ?_);refine qq_e 8 #[.int .u64 0,.int .u32 0] 122 ?_;intro j hg w9 hbox hb;have n_:=qn8 (Kd.R_below (Kd.R_elderB qq_3 j (Nat.le_of_eq hg.symm)) hb) (Qfd (g:=l) (o:=.cells #[.int .u64 c,.int .u32 d] 122 (0,0)) qq_0 hb) (Qgi qq_b hb) (hbox) (qq_s hg:w.heap.size≤j) (qq_s hg:w.heap.size≤j) ((by rw[hg];exact Nat.ne_of_lt (Qen (g:=l) (o:=.cells #[.int .u64 c,.int .u32 d] 122 (0,0)) qq_0):l≠j)) ((by rw[hg];exact Nat.ne_of_gt (Qen (g:=l) (o:=.cells #[.int .u64 c,.int .u32 d] 122 (0,0)) qq_0):j≠l));clear s m HB;obtain⟨s,m,HB,n,P,T,x,y⟩:=n_;clear hb hbox hg;have bv:=y.out;have bw:=x.out;obtain⟨aR,aT⟩:=qc2 n.out;have bx:=Qep n.out;obtain⟨aU,aV⟩:=qc2 m.out;have bz:=Qep m.out) |((with_reducible refine Qjt (b:=.append) (xs:=#[.tmp 29,.tmp 31]) rfl ?_);at_builtin;refine Kd.R_append k122 (w0:=w) w.heap.size rfl (.tmp 29) (.tmp 31) 49 122 (.agg #[(.int .u64 0),(.int .u32 0)]) 16 rfl Tryz.underlying49 Qkf rfl (by decide) (by omega) u5 q (⟨(Qkt l0 a).f0,(Qkt l0 a).f1⟩:S122) [.int .u64 ((Qkt l0 a).f0),.int .u32 ((Qkt l0 a).f1)] (fun k_=>k_≠l∧k_≠j) (fun _=>False) rfl qq_12 ?aP (fun _ hk=>hk.elim) ?aF ?aO ?aB ?aS ?aL ?_;(case aP=>exact Qks _ _ _ (⟨(Qkt l0 a).f0,(Qkt l0 a).f1⟩:S122));(case aB=>exact qq_b);(case aF=>exact(fun k_ hk=>⟨Kd.freshB (g:=l) (o:=.cells #[.int .u64 c,.int .u32 d] 122 (0,0)) qq_9 k_ hk,Kd.freshB (g:=j) (o:=.cells #[.int .u64 ((Qkt l0 a).f0),.int .u32 ((Qkt l0 a).f1)] 122 (0,0)) qq_x k_ hk⟩));(case aO=>exact(by(with_reducible repeat(first|apply Kd.R_alloc|apply Kd.R_drewN|apply Kd.R_drew));exact Kd.R_mono (Kd.R_far (p:=⟨j,1,none⟩) (Kd.R_far (p:=⟨j,0,none⟩) (Kd.R_mono s.out (fun k_ hk=>(⟨hk,hk.2⟩:_∧k_≠j))) (fun _ hk=>hk.2) (.int .u64 ((Qkt l0 a).f0))) (fun _ hk=>hk.2) (.int .u32 ((Qkt l0 a).f1))) (fun _ hk=>⟨hk.1.1,hk.1.2⟩)));(case aS=>exact(Qgh qq_b));(case aL=>have:=aM.out;omega);intro bS bZ ho hb hg hat;rw[← al.out]at ho;have n_:=qn4 (Qeq (g:=l) (o:=.cells #[.int .u64 c,.int .u32 d] 122 (0,0)) qq_9 hg (Kd.R_away s.out (fun _ hk=>hk.1))) (Qeq (g:=j) (o:=.cells #[.int .u64 ((Qkt l0 a).f0),.int .u32 ((Qkt l0 a).f1)] 122 (0,0)) qq_x hg (Kd.R_away s.out (fun _ hk=>hk.2))) (hb) (ho);clear m n HB s;obtain⟨m,n,HB,am⟩:=n_;clear ho hb hg hat))
        go_roundg k1
        case measure=>have:=HK1.out;omega
        case rel=>exact⟨(ag),(true),(wrap64 (a+1)),qq_8,qq_8,H',⟨by have:=HK1.out;omega⟩,⟨by(with_reducible repeat(first|apply Kd.R_alloc|apply Kd.R_drewN|apply Kd.R_drew));exact Kd.R_mono am.out (fun _ hk=>hk.1)⟩,⟨by(with_reducible repeat(first|apply Qfc|apply Qfb|apply Qfa));exact m.out⟩,⟨qq_b⟩⟩
       ·rw[if_neg c8]at H;exact absurd H (by simp)
      ·rw [if_neg c7]at H;have aI:(((Qkt l0 a).f0) == c && (((Qkt l0 a).f1) == d))=false:=by simpa using c7
       (try(have aJ:decide (((Qkt l0 a).f0)=c && (((Qkt l0 a).f1) == d))=false:=by simpa using c7))
       (try(have aK:(((Qkt l0 a).f0) == c && (((Qkt l0 a).f1) == d))=false:=by simpa using c7))
       (try(have bT:¬(((Qkt l0 a).f0)=c && (((Qkt l0 a).f1) == d)):=by simpa using c7))
       clear c7
       by_cases Y:M=true
       ·subst Y;have H1:(if q.length<8796093022208 then(Qbt.l0 k1 (q++[(⟨(Qkt l0 a).f0,(Qkt l0 a).f1⟩:S122)]) true l0 (l0.length:Int) (wrap64 (a+1)) c d)else(none))=some r:=by rw[if_pos rfl]at H;exact H
        clear H;have H:=H1;clear H1
        by_cases Z:q.length<8796093022208
        ·rw[if_pos Z]at H;have an:=QA Z;clear Z;obtain⟨ah,G⟩:∃y_:List (S122),y_=(q++[(⟨(Qkt l0 a).f0,(Qkt l0 a).f1⟩:S122)]):=⟨_,rfl⟩;replace H:(Qbt.l0 k1 ah true l0 (l0.length:Int) (wrap64 (a+1)) c d)=some r:=by first |(rw[G];with_reducible exact H) |(have v:=(Option.bind_some _ _).symm.trans H;rw[G];with_reducible exact v) |(have v:=(Option.bind_some _ _).symm.trans H;with_reducible exact v)|with_reducible exact H |(rw[G];exact H)|exact H
         have ao:=QA G;clear G;have H':=QA H;clear H;have z:0≤(a:Int):=of_decide_eq_true qq_6;have A:a<(l0.length:Int):=of_decide_eq_true qq_6;obtain⟨O,D,t,u⟩:=Qku X.out a z A
         cases D
         replace t:=qq_h HB.out t;replace u:=qq_h HB.out u;replace z:=eq_true z;replace A:=eq_true A
         go_wp2_with (first |((with_reducible refine Qgt (N:=8) rfl ?_);refine qq_e 8 #[.int .u64 0,.int .u32 0] 122 ?_;intro j hg b0 hbox hb;have n_:=qn8 (Kd.R_below (Kd.R_elderB qq_3 j (Nat.le_of_eq hg.symm)) hb) (Qfd (g:=l) (o:=.cells #[.int .u64 c,.int .u32 d] 122 (0,0)) qq_0 hb) (Qgi qq_b hb) (hbox) (qq_s hg:w.heap.size≤j) (qq_s hg:w.heap.size≤j) ((by rw[hg];exact Nat.ne_of_lt (Qen (g:=l) (o:=.cells #[.int .u64 c,.int .u32 d] 122 (0,0)) qq_0):l≠j)) ((by rw[hg];exact Nat.ne_of_gt (Qen (g:=l) (o:=.cells #[.int .u64 c,.int .u32 d] 122 (0,0)) qq_0):j≠l));clear s m HB;obtain⟨s,m,HB,n,P,T,x,y⟩:=n_;clear hb hbox hg;have bA:=y.out;have bB:=x.out;obtain⟨aW,aX⟩:=qc2 n.out;have bC:=Qep n.out;obtain⟨aY,aZ⟩:=qc2 m.out;have bD:=Qep m.out) |((with_reducible refine Qjt (b:=.append) (xs:=#[.tmp 29,.tmp 31]) rfl ?_);at_builtin;refine Kd.R_append k122 (w0:=w) w.heap.size rfl (.tmp 29) (.tmp 31) 49 122 (.agg #[(.int .u64 0),(.int .u32 0)]) 16 rfl Tryz.underlying49 Qkf rfl (by decide) (by omega) u5 q (⟨(Qkt l0 a).f0,(Qkt l0 a).f1⟩:S122) [.int .u64 ((Qkt l0 a).f0),.int .u32 ((Qkt l0 a).f1)] (fun k_=>k_≠l∧k_≠j) (fun _=>False) rfl qq_12 ?aP (fun _ hk=>hk.elim) ?aF ?aO ?aB ?aS ?aL ?_;(case aP=>exact Qks _ _ _ (⟨(Qkt l0 a).f0,(Qkt l0 a).f1⟩:S122));(case aB=>exact qq_b);(case aF=>exact(fun k_ hk=>⟨Kd.freshB (g:=l) (o:=.cells #[.int .u64 c,.int .u32 d] 122 (0,0)) qq_9 k_ hk,Kd.freshB (g:=j) (o:=.cells #[.int .u64 ((Qkt l0 a).f0),.int .u32 ((Qkt l0 a).f1)] 122 (0,0)) qq_x k_ hk⟩));(case aO=>exact(by(with_reducible repeat(first|apply Kd.R_alloc|apply Kd.R_drewN|apply Kd.R_drew));exact Kd.R_mono (Kd.R_far (p:=⟨j,1,none⟩) (Kd.R_far (p:=⟨j,0,none⟩) (Kd.R_mono s.out (fun k_ hk=>(⟨hk,hk.2⟩:_∧k_≠j))) (fun _ hk=>hk.2) (.int .u64 ((Qkt l0 a).f0))) (fun _ hk=>hk.2) (.int .u32 ((Qkt l0 a).f1))) (fun _ hk=>⟨hk.1.1,hk.1.2⟩)));(case aS=>exact(Qgh qq_b));(case aL=>have:=an.out;omega);intro bU b1 ho hb hg hat;rw[← ao.out]at ho;have n_:=qn4 (Qeq (g:=l) (o:=.cells #[.int .u64 c,.int .u32 d] 122 (0,0)) qq_9 hg (Kd.R_away s.out (fun _ hk=>hk.1))) (Qeq (g:=j) (o:=.cells #[.int .u64 ((Qkt l0 a).f0),.int .u32 ((Qkt l0 a).f1)] 122 (0,0)) qq_x hg (Kd.R_away s.out (fun _ hk=>hk.2))) (hb) (ho);clear m n HB s;obtain⟨m,n,HB,ap⟩:=n_;clear ho hb hg hat))
         go_roundg k1
         case measure=>have:=HK1.out;omega
         case rel=>exact⟨(ah),(true),(wrap64 (a+1)),qq_8,qq_8,H',⟨by have:=HK1.out;omega⟩,⟨by(with_reducible repeat(first|apply Kd.R_alloc|apply Kd.R_drewN|apply Kd.R_drew));exact Kd.R_mono ap.out (fun _ hk=>hk.1)⟩,⟨by(with_reducible repeat(first|apply Qfc|apply Qfb|apply Qfa));exact m.out⟩,⟨qq_b⟩⟩
        ·rw[if_neg Z]at H;exact absurd H (by simp)
       ·replace Y:=Bool.eq_false_iff.mpr Y;subst Y;have H1:((Qbw.f c d ((Qkt l0 a).f0) ((Qkt l0 a).f1)).bind fun U=>(if U=true then(if q.length<8796093022208 then((some (q++[(⟨c,d⟩:S122)]:List (S122))).bind fun B=>(if B.length<8796093022208 then(Qbt.l0 k1 (B++[(⟨(Qkt l0 a).f0,(Qkt l0 a).f1⟩:S122)]) true l0 (l0.length:Int) (wrap64 (a+1)) c d)else(none)))else(none))else(if q.length<8796093022208 then(Qbt.l0 k1 (q++[(⟨(Qkt l0 a).f0,(Qkt l0 a).f1⟩:S122)]) false l0 (l0.length:Int) (wrap64 (a+1)) c d)else(none))))=some r:=by rw[if_neg (show ¬(false=true)by decide)]at H;exact H
        clear H;have H:=H1;clear H1;replace H:=Option.bind_eq_some_iff.mp H;obtain⟨U,ai,H⟩:=H;replace H:(if U=true then(if q.length<8796093022208 then((some (q++[(⟨c,d⟩:S122)]:List (S122))).bind fun B=>(if B.length<8796093022208 then(Qbt.l0 k1 (B++[(⟨(Qkt l0 a).f0,(Qkt l0 a).f1⟩:S122)]) true l0 (l0.length:Int) (wrap64 (a+1)) c d)else(none)))else(none))else(if q.length<8796093022208 then(Qbt.l0 k1 (q++[(⟨(Qkt l0 a).f0,(Qkt l0 a).f1⟩:S122)]) false l0 (l0.length:Int) (wrap64 (a+1)) c d)else(none)))=some r:=H;have aG:=QA ai;clear ai
        by_cases aa:U=true
        ·subst aa;have H1:(if q.length<8796093022208 then((some (q++[(⟨c,d⟩:S122)]:List (S122))).bind fun B=>(if B.length<8796093022208 then(Qbt.l0 k1 (B++[(⟨(Qkt l0 a).f0,(Qkt l0 a).f1⟩:S122)]) true l0 (l0.length:Int) (wrap64 (a+1)) c d)else(none)))else(none))=some r:=by rw[if_pos rfl]at H;exact H
         clear H;have H:=H1;clear H1
         by_cases ab:q.length<8796093022208
         ·rw[if_pos ab]at H;have aq:=QA ab;clear ab;obtain⟨B,I⟩:∃y_:List (S122),y_=(q++[(⟨c,d⟩:S122)]):=⟨_,rfl⟩;replace H:(if B.length<8796093022208 then(Qbt.l0 k1 (B++[(⟨(Qkt l0 a).f0,(Qkt l0 a).f1⟩:S122)]) true l0 (l0.length:Int) (wrap64 (a+1)) c d)else(none))=some r:=by first |(rw[I];with_reducible exact H) |(have v:=(Option.bind_some _ _).symm.trans H;rw[I];with_reducible exact v) |(have v:=(Option.bind_some _ _).symm.trans H;with_reducible exact v)|with_reducible exact H |(rw[I];exact H)|exact H
          have ar:=QA I;clear I
          by_cases ac:B.length<8796093022208
          ·rw[if_pos ac]at H;have au:=QA ac;clear ac;obtain⟨aj,J⟩:∃y_:List (S122),y_=(B++[(⟨(Qkt l0 a).f0,(Qkt l0 a).f1⟩:S122)]):=⟨_,rfl⟩;replace H:(Qbt.l0 k1 aj true l0 (l0.length:Int) (wrap64 (a+1)) c d)=some r:=by first |(rw[J];with_reducible exact H) |(have v:=(Option.bind_some _ _).symm.trans H;rw[J];with_reducible exact v) |(have v:=(Option.bind_some _ _).symm.trans H;with_reducible exact v)|with_reducible exact H |(rw[J];exact H)|exact H
           have av:=QA J;clear J;have H':=QA H;clear H;have z:0≤(a:Int):=of_decide_eq_true qq_6;have A:a<(l0.length:Int):=of_decide_eq_true qq_6;obtain⟨O,D,t,u⟩:=Qku X.out a z A
           cases D
           replace t:=qq_h HB.out t;replace u:=qq_h HB.out u;replace z:=eq_true z;replace A:=eq_true A
           go_wp2_with (first |((with_reducible refine Qgt (N:=8) rfl ?_);refine qq_e 8 #[.int .u64 0,.int .u32 0] 122 ?_;intro j hg b2 hbox hb;have n_:=qn8 (Kd.R_below (Kd.R_elderB qq_3 j (Nat.le_of_eq hg.symm)) hb) (Qfd (g:=l) (o:=.cells #[.int .u64 c,.int .u32 d] 122 (0,0)) qq_0 hb) (Qgi qq_b hb) (hbox) (qq_s hg:w.heap.size≤j) (qq_s hg:w.heap.size≤j) ((by rw[hg];exact Nat.ne_of_lt (Qen (g:=l) (o:=.cells #[.int .u64 c,.int .u32 d] 122 (0,0)) qq_0):l≠j)) ((by rw[hg];exact Nat.ne_of_gt (Qen (g:=l) (o:=.cells #[.int .u64 c,.int .u32 d] 122 (0,0)) qq_0):j≠l));clear s m HB;obtain⟨s,m,HB,n,P,T,x,y⟩:=n_;clear hb hbox hg;have bE:=y.out;have bF:=x.out;obtain⟨ba,bb⟩:=qc2 n.out;have bG:=Qep n.out;obtain⟨bc,bd⟩:=qc2 m.out;have bH:=Qep m.out) |(go_at_call 158;(with_reducible refine(Qbw.calls c d ((Qkt l0 a).f0) ((Qkt l0 a).f1) true _ aG.out).mono ?_);rintro e b3 ⟨rfl,hb⟩;have n_:=qn4 (Kd.R_below (by(with_reducible repeat(first|apply Kd.R_alloc|apply Kd.R_drewN|apply Kd.R_drew));exact(Kd.R_mono (Kd.R_far (p:=⟨j,1,none⟩) (Kd.R_far (p:=⟨j,0,none⟩) (Kd.R_mono s.out (fun k_ hk=>(⟨hk,hk.2⟩:_∧k_≠j))) (fun _ hk=>hk.2) (.int .u64 ((Qkt l0 a).f0))) (fun _ hk=>hk.2) (.int .u32 ((Qkt l0 a).f1))) (fun _ h_=>h_.1))) hb) (Qfd (g:=l) (o:=.cells #[.int .u64 c,.int .u32 d] 122 (0,0)) qq_9 hb) (Qfd (g:=j) (o:=.cells #[.int .u64 ((Qkt l0 a).f0),.int .u32 ((Qkt l0 a).f1)] 122 (0,0)) qq_x hb) (Qgi qq_b hb);clear s m n HB;obtain⟨s,m,n,HB⟩:=n_;(try clear hb);(try clear hb2);(try clear hk);(try clear hi);obtain⟨be,bf⟩:=qc2 m.out;have bI:=Qep m.out) |((with_reducible refine Qjt (b:=.append) (xs:=#[.tmp 25,.tmp 27]) rfl ?_);at_builtin;refine Kd.R_append k122 (w0:=w) w.heap.size rfl (.tmp 25) (.tmp 27) 49 122 (.agg #[(.int .u64 0),(.int .u32 0)]) 16 rfl Tryz.underlying49 Qkf rfl (by decide) (by omega) u5 q (⟨c,d⟩:S122) [.int .u64 c,.int .u32 d] (fun k_=>k_≠l∧k_≠j) (fun _=>False) rfl rfl ?aP (fun _ hk=>hk.elim) ?aF ?aO ?aB ?aS ?aL ?_;(case aP=>exact Qks _ _ _ (⟨c,d⟩:S122));(case aB=>exact qq_b);(case aF=>exact(fun k_ hk=>⟨Kd.freshB (g:=l) (o:=.cells #[.int .u64 c,.int .u32 d] 122 (0,0)) qq_0 k_ hk,Kd.freshB (g:=j) (o:=.cells #[.int .u64 ((Qkt l0 a).f0),.int .u32 ((Qkt l0 a).f1)] 122 (0,0)) qq_0 k_ hk⟩));(case aO=>exact qq_3);(case aS=>exact(Qgh qq_b));(case aL=>have:=aq.out;omega);intro aN b4 ho hb hg hat;rw[← ar.out]at ho;have n_:=qn4 (Qeq (g:=l) (o:=.cells #[.int .u64 c,.int .u32 d] 122 (0,0)) qq_0 hg (Kd.R_away s.out (fun _ hk=>hk.1))) (Qeq (g:=j) (o:=.cells #[.int .u64 ((Qkt l0 a).f0),.int .u32 ((Qkt l0 a).f1)] 122 (0,0)) qq_0 hg (Kd.R_away s.out (fun _ hk=>hk.2))) (hb) (ho);clear m n HB s;obtain⟨m,n,HB,W⟩:=n_;clear ho hb hg hat;obtain⟨bg,bh⟩:=qc2 n.out;have bJ:=Qep n.out) |((with_reducible refine Qjt (b:=.append) (xs:=#[.tmp 29,.tmp 31]) rfl ?_);at_builtin;refine Kd.R_append k122 (w0:=w) w.heap.size rfl (.tmp 29) (.tmp 31) 49 122 (.agg #[(.int .u64 0),(.int .u32 0)]) 16 rfl Tryz.underlying49 Qkf rfl (by decide) (by omega) aN B (⟨(Qkt l0 a).f0,(Qkt l0 a).f1⟩:S122) [.int .u64 ((Qkt l0 a).f0),.int .u32 ((Qkt l0 a).f1)] (fun k_=>k_≠l∧k_≠j) (fun _=>False) rfl rfl ?aP (fun _ hk=>hk.elim) ?aF ?aO ?aB ?aS ?aL ?_;(case aP=>exact Qks _ _ _ (⟨(Qkt l0 a).f0,(Qkt l0 a).f1⟩:S122));(case aB=>exact qq_b);(case aF=>exact(fun k_ hk=>⟨Kd.freshB (g:=l) (o:=.cells #[.int .u64 c,.int .u32 d] 122 (0,0)) qq_0 k_ hk,Kd.freshB (g:=j) (o:=.cells #[.int .u64 ((Qkt l0 a).f0),.int .u32 ((Qkt l0 a).f1)] 122 (0,0)) qq_0 k_ hk⟩));(case aO=>exact qq_3);(case aS=>exact(Qgh qq_b));(case aL=>have:=au.out;omega);intro bV b5 ho hb hg hat;rw[← av.out]at ho;have n_:=qn4 (Qeq (g:=l) (o:=.cells #[.int .u64 c,.int .u32 d] 122 (0,0)) qq_0 hg (Kd.R_away W.out (fun _ hk=>hk.1))) (Qeq (g:=j) (o:=.cells #[.int .u64 ((Qkt l0 a).f0),.int .u32 ((Qkt l0 a).f1)] 122 (0,0)) qq_0 hg (Kd.R_away W.out (fun _ hk=>hk.2))) (hb) (ho);clear m n HB W;obtain⟨m,n,HB,aw⟩:=n_;clear ho hb hg hat))
           go_roundg k1
           case measure=>have:=HK1.out;omega
           case rel=>exact⟨(aj),(true),(wrap64 (a+1)),qq_8,qq_8,H',⟨by have:=HK1.out;omega⟩,⟨by(with_reducible repeat(first|apply Kd.R_alloc|apply Kd.R_drewN|apply Kd.R_drew));exact Kd.R_mono aw.out (fun _ hk=>hk.1)⟩,⟨by(with_reducible repeat(first|apply Qfc|apply Qfb|apply Qfa));exact m.out⟩,⟨qq_b⟩⟩
          ·rw[if_neg ac]at H;exact absurd H (by simp)
         ·rw[if_neg ab]at H;exact absurd H (by simp)
        ·replace aa:=Bool.eq_false_iff.mpr aa;subst aa;have H1:(if q.length<8796093022208 then(Qbt.l0 k1 (q++[(⟨(Qkt l0 a).f0,(Qkt l0 a).f1⟩:S122)]) false l0 (l0.length:Int) (wrap64 (a+1)) c d)else(none))=some r:=by rw[if_neg (show ¬(false=true)by decide)]at H;exact H
         clear H;have H:=H1;clear H1
         by_cases ad:q.length<8796093022208
         ·rw[if_pos ad]at H;have ax:=QA ad;clear ad;obtain⟨ak,K⟩:∃y_:List (S122),y_=(q++[(⟨(Qkt l0 a).f0,(Qkt l0 a).f1⟩:S122)]):=⟨_,rfl⟩;replace H:(Qbt.l0 k1 ak false l0 (l0.length:Int) (wrap64 (a+1)) c d)=some r:=by first |(rw[K];with_reducible exact H) |(have v:=(Option.bind_some _ _).symm.trans H;rw[K];with_reducible exact v) |(have v:=(Option.bind_some _ _).symm.trans H;with_reducible exact v)|with_reducible exact H |(rw[K];exact H)|exact H
          have ay:=QA K;clear K;have H':=QA H;clear H;have z:0≤(a:Int):=of_decide_eq_true qq_6;have A:a<(l0.length:Int):=of_decide_eq_true qq_6;obtain⟨O,D,t,u⟩:=Qku X.out a z A
          cases D
          replace t:=qq_h HB.out t;replace u:=qq_h HB.out u;replace z:=eq_true z;replace A:=eq_true A
          go_wp2_with (first |((with_reducible refine Qgt (N:=8) rfl ?_);refine qq_e 8 #[.int .u64 0,.int .u32 0] 122 ?_;intro j hg b6 hbox hb;have n_:=qn8 (Kd.R_below (Kd.R_elderB qq_3 j (Nat.le_of_eq hg.symm)) hb) (Qfd (g:=l) (o:=.cells #[.int .u64 c,.int .u32 d] 122 (0,0)) qq_0 hb) (Qgi qq_b hb) (hbox) (qq_s hg:w.heap.size≤j) (qq_s hg:w.heap.size≤j) ((by rw[hg];exact Nat.ne_of_lt (Qen (g:=l) (o:=.cells #[.int .u64 c,.int .u32 d] 122 (0,0)) qq_0):l≠j)) ((by rw[hg];exact Nat.ne_of_gt (Qen (g:=l) (o:=.cells #[.int .u64 c,.int .u32 d] 122 (0,0)) qq_0):j≠l));clear s m HB;obtain⟨s,m,HB,n,P,T,x,y⟩:=n_;clear hb hbox hg;have bK:=y.out;have bL:=x.out;obtain⟨bi,bj⟩:=qc2 n.out;have bM:=Qep n.out;obtain⟨bk,bl⟩:=qc2 m.out;have bN:=Qep m.out) |(go_at_call 158;(with_reducible refine(Qbw.calls c d ((Qkt l0 a).f0) ((Qkt l0 a).f1) false _ aG.out).mono ?_);rintro e b7 ⟨rfl,hb⟩;have n_:=qn4 (Kd.R_below (by(with_reducible repeat(first|apply Kd.R_alloc|apply Kd.R_drewN|apply Kd.R_drew));exact(Kd.R_mono (Kd.R_far (p:=⟨j,1,none⟩) (Kd.R_far (p:=⟨j,0,none⟩) (Kd.R_mono s.out (fun k_ hk=>(⟨hk,hk.2⟩:_∧k_≠j))) (fun _ hk=>hk.2) (.int .u64 ((Qkt l0 a).f0))) (fun _ hk=>hk.2) (.int .u32 ((Qkt l0 a).f1))) (fun _ h_=>h_.1))) hb) (Qfd (g:=l) (o:=.cells #[.int .u64 c,.int .u32 d] 122 (0,0)) qq_9 hb) (Qfd (g:=j) (o:=.cells #[.int .u64 ((Qkt l0 a).f0),.int .u32 ((Qkt l0 a).f1)] 122 (0,0)) qq_x hb) (Qgi qq_b hb);clear s m n HB;obtain⟨s,m,n,HB⟩:=n_;(try clear hb);(try clear hb2);(try clear hk);(try clear hi);obtain⟨bn,bo⟩:=qc2 n.out;have bO:=Qep n.out) |((with_reducible refine Qjt (b:=.append) (xs:=#[.tmp 29,.tmp 31]) rfl ?_);at_builtin;refine Kd.R_append k122 (w0:=w) w.heap.size rfl (.tmp 29) (.tmp 31) 49 122 (.agg #[(.int .u64 0),(.int .u32 0)]) 16 rfl Tryz.underlying49 Qkf rfl (by decide) (by omega) u5 q (⟨(Qkt l0 a).f0,(Qkt l0 a).f1⟩:S122) [.int .u64 ((Qkt l0 a).f0),.int .u32 ((Qkt l0 a).f1)] (fun k_=>k_≠l∧k_≠j) (fun _=>False) rfl rfl ?aP (fun _ hk=>hk.elim) ?aF ?aO ?aB ?aS ?aL ?_;(case aP=>exact Qks _ _ _ (⟨(Qkt l0 a).f0,(Qkt l0 a).f1⟩:S122));(case aB=>exact qq_b);(case aF=>exact(fun k_ hk=>⟨Kd.freshB (g:=l) (o:=.cells #[.int .u64 c,.int .u32 d] 122 (0,0)) qq_0 k_ hk,Kd.freshB (g:=j) (o:=.cells #[.int .u64 ((Qkt l0 a).f0),.int .u32 ((Qkt l0 a).f1)] 122 (0,0)) qq_0 k_ hk⟩));(case aO=>exact qq_3);(case aS=>exact(Qgh qq_b));(case aL=>have:=ax.out;omega);intro bW b8 ho hb hg hat;rw[← ay.out]at ho;have n_:=qn4 (Qeq (g:=l) (o:=.cells #[.int .u64 c,.int .u32 d] 122 (0,0)) qq_0 hg (Kd.R_away s.out (fun _ hk=>hk.1))) (Qeq (g:=j) (o:=.cells #[.int .u64 ((Qkt l0 a).f0),.int .u32 ((Qkt l0 a).f1)] 122 (0,0)) qq_0 hg (Kd.R_away s.out (fun _ hk=>hk.2))) (hb) (ho);clear m n HB s;obtain⟨m,n,HB,az⟩:=n_;clear ho hb hg hat))
          go_roundg k1
          case measure=>have:=HK1.out;omega
          case rel=>exact⟨(ak),(false),(wrap64 (a+1)),qq_8,qq_8,H',⟨by have:=HK1.out;omega⟩,⟨by(with_reducible repeat(first|apply Kd.R_alloc|apply Kd.R_drewN|apply Kd.R_drew));exact Kd.R_mono az.out (fun _ hk=>hk.1)⟩,⟨by(with_reducible repeat(first|apply Qfc|apply Qfb|apply Qfa));exact m.out⟩,⟨qq_b⟩⟩
         ·rw[if_neg ad]at H;exact absurd H (by simp)
     ·rw[if_neg c6]at H;exact absurd H (by simp)
    ·rw[if_neg c5]at H;exact absurd H (by simp)
   ·rw[if_neg c4]at H;have aH:decide (a<(l0.length:Int))=false:=decide_eq_false c4;clear c4
    by_cases ae:M=true
    ·subst ae;have H1:(some q)=some r:=by rw[if_pos rfl]at H;exact H
     clear H;have H:=H1;clear H1;obtain rfl:=Option.some.inj H;go_wp2;go_ret
     exact⟨_,by first|rfl |(simp[Qjz,Qka]<;>rfl) |(simp[*,Qjz,Qka]<;>rfl),by(with_reducible repeat(first|apply Kd.R_alloc|apply Kd.R_drewN|apply Kd.R_drew));exact Kd.R_mono s.out (fun _ hk=>trivial),qq_b⟩
    ·replace ae:=Bool.eq_false_iff.mpr ae;subst ae;have H1:(if q.length<8796093022208 then(some (q++[(⟨c,d⟩:S122)]))else(none))=some r:=by rw[if_neg (show ¬(false=true)by decide)]at H;exact H
     clear H;have H:=H1;clear H1
     by_cases af:q.length<8796093022208
     ·rw[if_pos af]at H;have aA:=QA af;clear af;obtain⟨aQ,L⟩:∃y_:List (S122),y_=(q++[(⟨c,d⟩:S122)]):=⟨_,rfl⟩;replace H:(some aQ)=some r:=by first |(rw[L];with_reducible exact H) |(have v:=(Option.bind_some _ _).symm.trans H;rw[L];with_reducible exact v) |(have v:=(Option.bind_some _ _).symm.trans H;with_reducible exact v)|with_reducible exact H |(rw[L];exact H)|exact H
      have aC:=QA L;clear L;obtain rfl:=Option.some.inj H;obtain⟨bp,bq⟩:=qc2 m.out;have bP:=Qep m.out
      go_wp2_with (first |((with_reducible refine Qjt (b:=.append) (xs:=#[.tmp 36,.tmp 38]) rfl ?_);at_builtin;refine Kd.R_append k122 (w0:=w) w.heap.size rfl (.tmp 36) (.tmp 38) 49 122 (.agg #[(.int .u64 0),(.int .u32 0)]) 16 rfl Tryz.underlying49 Qkf rfl (by decide) (by omega) u5 q (⟨c,d⟩:S122) [.int .u64 c,.int .u32 d] (fun k_=>k_≠l) (fun _=>False) rfl rfl ?aP (fun _ hk=>hk.elim) ?aF ?aO ?aB ?aS ?aL ?_;(case aP=>exact Qks _ _ _ (⟨c,d⟩:S122));(case aB=>exact qq_b);(case aF=>exact(fun k_ hk=>Kd.freshB (g:=l) (o:=.cells #[.int .u64 c,.int .u32 d] 122 (0,0)) qq_0 k_ hk));(case aO=>exact qq_3);(case aS=>exact(Qgh qq_b));(case aL=>have:=aA.out;omega);intro bX b9 ho hb hg hat;rw[← aC.out]at ho;have n_:=qn3 (Qeq (g:=l) (o:=.cells #[.int .u64 c,.int .u32 d] 122 (0,0)) qq_0 hg (Kd.R_away s.out (fun _ hk=>hk))) (hb) (ho);clear m HB s;obtain⟨m,HB,aD⟩:=n_;clear ho hb hg hat))
      go_ret
      exact⟨_,by first|rfl |(simp[Qjz,Qka]<;>rfl) |(simp[*,Qjz,Qka]<;>rfl),by(with_reducible repeat(first|apply Kd.R_alloc|apply Kd.R_drewN|apply Kd.R_drew));exact Kd.R_mono aD.out (fun _ hk=>trivial),qq_b⟩
     ·rw[if_neg af]at H;exact absurd H (by simp)
end Go.Proofs.YtnnofopfbeklbaaGreat.C
end
section
namespace Go.Proofs.YtnnofopfbeklbaaGreat.C
open Go.RowKit Go.Proofs.YtnnofopfbeklbaaGreatW.PrintWords Go.Proofs.YtnnofopfbeklbaaGreatW.PrintLast Go.Proofs.YtnnofopfbeklbaaGreatW.PrintMore
attribute [local go_sem] Qjk Qjl Qjm Qjn Qjo Qjp Qjq Qjr
def Qbu.l0:Nat→List (S122)→List (S122)→Int→Int→Option ((List (S122)))
 | 0,_,_,_,_=>none
 | k+1,x3,x6,x7,x8=>if x8<x7 then(if 0≤x8 then(if x8<(x6.length:Int)then((Qbt.f k x3 ((Qkt x6 x8).f0) ((Qkt x6 x8).f1)).bind fun t448=>(Qbu.l0 k t448 x6 x7 (wrap64 (x8+1))))else(none))else(none))else(some x3)
def Qbu.f(k:Nat)(l0:List (S122)):Option ((List (S122))):=Qbu.l0 k ([]:List (S122)) l0 (l0.length:Int) 0
theorem Qbu.calls(k:Nat)(A0:Option Addr)(c0:Nat)(l0:List (S122))(r:List (S122))(w:World)(hr0:Kd.C k122 w A0 l0.length l0)(hc0:l0.length≤c0)(h:Qbu.f k l0=some r) :
  Calls Tryz.prog 66 #[.slice A0 l0.length c0] w fun e w'=>∃x:Value,e=.returned (x)∧Kd.R k122 122 w' w.heap.size (fun _=>True) x r∧Below w.heap.size w w':=by
 have hu122:=Tryz.underlying122;have B:=QA hr0;have P:=QA hc0;clear hr0 hc0;have HB:=QA (Below.refl w.heap.size w);have H:(Qbu.l0 k ([]:List (S122)) l0 (l0.length:Int) 0)=some r:=h;clear h;have H':=QA H;clear H
 go_enter Tryz.func66,Tryz.ntmps66
 go_wp2
 go_loopg [3,8] k (fun kq v3 v8 w'=>∃(j:List (S122)) (a:Int),v8=.int .i64 a∧Aside0 (Qbu.l0 kq j l0 (l0.length:Int) a=some r)∧Aside0 (kq≤k)∧Aside0 (Kd.R k122 122 w' w.heap.size (fun _=>True) v3 j)∧Aside0 (Below w.heap.size w w'))
 case atStart=>exact⟨(([]:List (S122))),(0),qq_8,H',⟨Nat.le_refl _⟩,⟨by first|exact Kd.R_nil _ _ _ _ _|exact Kd.N_nil _ _ _ _ _|exact Kd.V_nil _ _ _ _ _|exact Kd.Q_nil _ _ _ _ _|exact Kd.S_nil _ _ _ _ _⟩,⟨qq_b⟩⟩
 case round =>
  clear H';obtain⟨j,a,rfl,HA,HK1,d,HB⟩:=hrel
  cases gk with
  | zero=>exact absurd HA.out (by simp[Qbu.l0])
  | succ k1 =>
   have H:=HA.out;clear HA;simp only[Qbu.l0]at H
   by_cases c2:a<(l0.length:Int)
   ·rw[if_pos c2]at H;have z:decide (a<(l0.length:Int))=true:=decide_eq_true c2;clear c2
    by_cases c3:0≤a
    ·rw[if_pos c3]at H;have K:decide (0≤a)=true:=decide_eq_true c3;clear c3
     by_cases c4:a<(l0.length:Int)
     ·rw[if_pos c4]at H;have L:decide (a<(l0.length:Int))=true:=decide_eq_true c4;clear c4;replace H:=Option.bind_eq_some_iff.mp H;obtain⟨q,y,H⟩:=H;replace H:(Qbu.l0 k1 q l0 (l0.length:Int) (wrap64 (a+1)))=some r:=H;have A5:=QA y;clear y;have H':=QA H;clear H;have s:0≤(a:Int):=of_decide_eq_true qq_6;have t:a<(l0.length:Int):=of_decide_eq_true qq_6;obtain⟨G,A,m,p⟩:=Qku B.out a s t
      cases A
      replace m:=qq_h HB.out m;replace p:=qq_h HB.out p;replace s:=eq_true s;replace t:=eq_true t
      go_wp2_with (first |((with_reducible refine Qgt (N:=5) rfl ?_);refine qq_e 5 #[.int .u64 0,.int .u32 0] 122 ?_;intro b hg w6 hbox hb;have n_:=qn5 (Kd.R_below (Kd.R_elderB qq_3 b (Nat.le_of_eq hg.symm)) hb) (Qgi qq_b hb) (hbox) (qq_s hg:w.heap.size≤b) (qq_s hg:w.heap.size≤b);clear d HB;obtain⟨d,HB,l,I,J⟩:=n_;clear hb hbox hg;obtain⟨D,E⟩:=qc2 l.out;have M:=Qep l.out;obtain⟨Ao8,co8,eo8⟩:=Kd.R_slice d.out;subst eo8) |((with_reducible refine Qjs (f:=110) rfl ?_);refine Qhs (some 14) rfl rfl Tryz.func110 qq_7 rfl #[.slice Ao8 j.length co8,.agg #[.int .u64 ((Qkt l0 a).f0),.int .u32 ((Qkt l0 a).f1)]] rfl qq_1 ?_;(with_reducible refine(Qbt.calls k1 _ _ j ((Qkt l0 a).f0) ((Qkt l0 a).f1) q _ ?side1 ?side2 A5.out).mono ?_);(case side1=>refine(Kd.R_reads' (e:=122) (base:=w.heap.size) (ok:=fun k_=>(True∧k_≠b)) (n:=j.length) (c:=co8) ?_).2.2;exact qq_13);(case side2=>exact(Kd.R_reads' d.out).2.1);rintro e w9 ⟨O,rfl,u,hb⟩;refine⟨_,rfl,?_⟩;have n_:=qn4 (Kd.R_elder' qq_13 (Kd.R_base u) hb) (Kd.R_lower (Kd.R_newB (Kd.R_new' u (Kd.R_lt qq_13)) (g:=b) (o:=.cells #[.int .u64 ((Qkt l0 a).f0),.int .u32 ((Qkt l0 a).f1)] 122 (0,0)) qq_x) (Qgh qq_b)) (Qfd (g:=b) (o:=.cells #[.int .u64 ((Qkt l0 a).f0),.int .u32 ((Qkt l0 a).f1)] 122 (0,0)) qq_x hb) (Qgi qq_b hb);clear d l HB;obtain⟨d,v,l,HB⟩:=n_;(try clear hb);(try clear hb2);(try clear hk);(try clear hi);(try clear u)))
      go_roundg k1
      case measure=>have:=HK1.out;omega
      case rel=>exact⟨(q),(wrap64 (a+1)),qq_8,H',⟨by have:=HK1.out;omega⟩,⟨by(with_reducible repeat(first|apply Kd.R_alloc|apply Kd.R_drewN|apply Kd.R_drew));exact Kd.R_mono v.out (fun _ hk=>trivial)⟩,⟨qq_b⟩⟩
     ·rw[if_neg c4]at H;exact absurd H (by simp)
    ·rw[if_neg c3]at H;exact absurd H (by simp)
   ·rw[if_neg c2]at H;have z:decide (a<(l0.length:Int))=false:=decide_eq_false c2;clear c2;obtain rfl:=Option.some.inj H;go_wp2;go_ret
    exact⟨_,by first|rfl |(simp[Qjz,Qka]<;>rfl) |(simp[*,Qjz,Qka]<;>rfl),by(with_reducible repeat(first|apply Kd.R_alloc|apply Kd.R_drewN|apply Kd.R_drew));exact d.out,qq_b⟩
def Qcg.l0:Nat→ByteArray→List (S122)→List (S39)→Int→Int→Option (ByteArray × (List (S122)))
 | 0,_,_,_,_,_=>none
 | k+1,x8,x9,x15,x16,x17=>if x17<x16 then(if 0≤x17 then(if x17<(x15.length:Int)then((Qbc.f k 0 ((Qki x15 x17).f2)).bind fun t455=>(if x9.length<8796093022208 then((Qbo.f k ((Qki x15 x17).f0) ((Qki x15 x17).f1) ((Qki x15 x17).f2) ((Qki x15 x17).f3)).bind fun t459=>(if x8.size+t459.size≤9223372036854775807 then(Qcg.l0 k (x8++t459) (x9++[(⟨t455,((x8.size:Int))%4294967296⟩:S122)]) x15 x16 (wrap64 (x17+1)))else(none)))else(none)))else(none))else(none))else((Qbu.f k x9).bind fun t460=>(some (x8,t460)))
def Qcg.f(k:Nat)(a0_0:Int)(a0_1:Int)(a1:Int)(l2:List (S39)):Option (ByteArray × (List (S122))):=(Qbn.f k a0_0 a0_1 a1).bind fun t452=>(Qcg.l0 k t452 ([]:List (S122)) l2 (l2.length:Int) 0)
theorem Qcg.calls (k:Nat) (m:Int) (n:Int) (a1:Int) (A2:Option Addr) (c2:Nat) (l2:List (S39)) (r1:ByteArray) (r2:List (S122)) (w:World) (hr2:Kd.C k39 w A2 l2.length l2) (hc2:l2.length≤c2) (h:Qcg.f k m n a1 l2=some (r1,r2)) :
  Calls Tryz.prog 27 #[.agg #[.int .u8 m,.int .u32 n],.int .u64 a1,.slice A2 l2.length c2] w fun e w'=>∃ad:Value,e=.returned (.tuple #[.string r1,ad])∧Kd.R k122 122 w' w.heap.size (fun _=>True) ad r2∧Below w.heap.size w w':=by
 have hu27:=Tryz.underlying27;have hu39:=Tryz.underlying39;have hu122:=Tryz.underlying122;have aq:=QA hr2;have aT:=QA hc2;clear hr2 hc2;have HB:=QA (Below.refl w.heap.size w);have H:((Qbn.f k m n a1).bind fun x=>(Qcg.l0 k x ([]:List (S122)) l2 (l2.length:Int) 0))=some (r1,r2):=h;clear h;replace H:=Option.bind_eq_some_iff.mp H;obtain⟨x,ae,H⟩:=H;replace H:(Qcg.l0 k x ([]:List (S122)) l2 (l2.length:Int) 0)=some (r1,r2):=H;have A4:=QA ae;clear ae;have H':=QA H;clear H
 go_enter Tryz.func27,Tryz.ntmps27
 go_wp2_with (first |((with_reducible refine Qgt (N:=3) rfl ?_);refine qq_e 3 #[.int .u8 m,.int .u32 n] 27 ?_;intro j hg w5 hbox hb;have n_:=qn4 (Qgi qq_b hb) (hbox) (qq_s hg:w.heap.size≤j) (qq_s hg:w.heap.size≤j);clear HB;obtain⟨HB,c,ax,ay⟩:=n_;clear hb hbox hg;obtain⟨O,P⟩:=qc2 c.out;have af:=Qep c.out) |((with_reducible refine Qjs (f:=55) rfl ?_);refine Qhs (some 14) rfl rfl Tryz.func55 qq_7 rfl #[.agg #[.int .u8 m,.int .u32 n],.int .u64 a1] rfl qq_1 ?_;(with_reducible refine(Qbn.calls k m n a1 x _ A4.out).mono ?_);rintro e w7 ⟨rfl,hb⟩;refine⟨_,rfl,?_⟩;have n_:=qn2 (Qfd (g:=j) (o:=.cells #[.int .u8 m,.int .u32 n] 27 (0,0)) qq_0 hb) (Qgi qq_b hb);clear c HB;obtain⟨c,HB⟩:=n_;(try clear hb);(try clear hb2);(try clear hk);(try clear hi)))
 go_loopg [8,9,17] k (fun kq v8 v9 ar w'=>∃(d:ByteArray) (t:List (S122)) (a:Int),v8=.string d∧ar=.int .i64 a∧Aside0 (Qcg.l0 kq d t l2 (l2.length:Int) a=some (r1,r2))∧Aside0 (kq≤k)∧Aside0 (Kd.R k122 122 w' w.heap.size (fun _=>True) v9 t)∧Aside0 (w'.heap[j]? = some (.cells #[.int .u8 m,.int .u32 n] 27 (0,0)))∧Aside0 (Below w.heap.size w w'))
 case atStart=>exact⟨(x),(([]:List (S122))),(0),qq_8,qq_8,H',⟨Nat.le_refl _⟩,⟨by first|exact Kd.R_nil _ _ _ _ _|exact Kd.N_nil _ _ _ _ _|exact Kd.V_nil _ _ _ _ _|exact Kd.Q_nil _ _ _ _ _|exact Kd.S_nil _ _ _ _ _⟩,⟨by(with_reducible repeat(first|apply Qfc|apply Qfb|apply Qfa));exact c.out⟩,⟨qq_b⟩⟩
 case round =>
  clear H'
  try clear c2
  try clear O
  try clear P
  try clear af
  obtain⟨d,t,a,rfl,rfl,HA,HK1,r,c,HB⟩:=hrel
  cases gk with
  | zero=>exact absurd HA.out (by simp[Qcg.l0])
  | succ k1 =>
   have H:=HA.out;clear HA;simp only[Qcg.l0]at H
   by_cases c8:a<(l2.length:Int)
   ·rw [if_pos c8]at H;have ag:decide (a<(l2.length:Int))=true:=decide_eq_true c8;clear c8
    by_cases c9:0≤a
    ·rw [if_pos c9]at H;have aN:decide (0≤a)=true:=decide_eq_true c9;clear c9
     by_cases c10:a<(l2.length:Int)
     ·rw[if_pos c10]at H;have az:decide (a<(l2.length:Int))=true:=decide_eq_true c10;clear c10;replace H:=Option.bind_eq_some_iff.mp H;obtain⟨v,T,H⟩:=H;replace H:(if t.length<8796093022208 then((Qbo.f k1 ((Qki l2 a).f0) ((Qki l2 a).f1) ((Qki l2 a).f2) ((Qki l2 a).f3)).bind fun s=>(if d.size+s.size≤9223372036854775807 then(Qcg.l0 k1 (d++s) (t++[(⟨v,((d.size:Int))%4294967296⟩:S122)]) l2 (l2.length:Int) (wrap64 (a+1)))else(none)))else(none))=some (r1,r2):=H;have au:=QA T;clear T
      by_cases M:t.length<8796093022208
      ·rw[if_pos M]at H;have aa:=QA M;clear M;obtain⟨J,u⟩:∃y_:List (S122),y_=(t++[(⟨v,((d.size:Int))%4294967296⟩:S122)]):=⟨_,rfl⟩;replace H:((Qbo.f k1 ((Qki l2 a).f0) ((Qki l2 a).f1) ((Qki l2 a).f2) ((Qki l2 a).f3)).bind fun s=>(if d.size+s.size≤9223372036854775807 then(Qcg.l0 k1 (d++s) J l2 (l2.length:Int) (wrap64 (a+1)))else(none)))=some (r1,r2):=by first |(rw[u];with_reducible exact H) |(have U:=(Option.bind_some _ _).symm.trans H;rw[u];with_reducible exact U) |(have U:=(Option.bind_some _ _).symm.trans H;with_reducible exact U)|with_reducible exact H |(rw[u];exact H)|exact H
       have ab:=QA u;clear u;replace H:=Option.bind_eq_some_iff.mp H;obtain⟨s,W,H⟩:=H;replace H:(if d.size+s.size≤9223372036854775807 then(Qcg.l0 k1 (d++s) J l2 (l2.length:Int) (wrap64 (a+1)))else(none))=some (r1,r2):=H;have av:=QA W;clear W
       by_cases E:d.size+s.size≤9223372036854775807
       ·rw[if_pos E]at H;have aA:=eq_true E;have aC:decide (d.size+s.size≤9223372036854775807)=true:=decide_eq_true E
        try have aD:(9223372036854775807<d.size+s.size)=False:=eq_false (Nat.not_lt.2 E)
        have H':=QA H;clear H;have K:0≤(a:Int):=of_decide_eq_true qq_6;have L:a<(l2.length:Int):=of_decide_eq_true qq_6;obtain⟨aE,ah,y,z,A,B⟩:=Qkj aq.out a K L
        cases ah
        replace y:=qq_h HB.out y;replace z:=qq_h HB.out z;replace A:=qq_h HB.out A;replace B:=qq_h HB.out B;replace K:=eq_true K;replace L:=eq_true L
        go_wp2_with (first |((with_reducible refine Qgt (N:=11) rfl ?_);refine qq_e 11 #[.bool false,.int .u64 0,.string (⟨#[]⟩:ByteArray),.string (⟨#[]⟩:ByteArray)] 39 ?_;intro q hg aU hbox hb;have n_:=qn8 (Kd.R_below qq_3 hb) (Qfd (g:=j) (o:=.cells #[.int .u8 m,.int .u32 n] 27 (0,0)) qq_0 hb) (Qgi qq_b hb) (hbox) (qq_s hg:w.heap.size≤q) (qq_s hg:w.heap.size≤q) ((by rw[hg];exact Nat.ne_of_lt (Qen (g:=j) (o:=.cells #[.int .u8 m,.int .u32 n] 27 (0,0)) qq_0):j≠q)) ((by rw[hg];exact Nat.ne_of_gt (Qen (g:=j) (o:=.cells #[.int .u8 m,.int .u32 n] 27 (0,0)) qq_0):q≠j));clear r c HB;obtain⟨r,c,HB,l,aG,aH,G,I⟩:=n_;clear hb hbox hg;have aI:=I.out;have aJ:=G.out;obtain⟨ai,aj,ak,al⟩:=qc4 l.out;have aK:=Qep l.out) |((with_reducible refine Qjs (f:=65) rfl ?_);refine Qhs (some 24) rfl rfl Tryz.func65 qq_7 rfl #[.int .u64 0,.string ((Qki l2 a).f2)] rfl qq_1 ?_;(with_reducible refine(Qbc.calls k1 0 ((Qki l2 a).f2) v _ au.out).mono ?_);rintro e aV ⟨rfl,hb⟩;refine⟨_,rfl,?_⟩;have n_:=qn4 (Kd.R_below (by(with_reducible repeat(first|apply Kd.R_alloc|apply Kd.R_drewN|apply Kd.R_drew));exact(Kd.R_mono (Kd.R_far (p:=⟨q,3,none⟩) (Kd.R_far (p:=⟨q,2,none⟩) (Kd.R_far (p:=⟨q,1,none⟩) (Kd.R_far (p:=⟨q,0,none⟩) (Kd.R_types r.out l.out (by decide)) (fun _ hk=>hk.2) (.bool ((Qki l2 a).f0))) (fun _ hk=>hk.2) (.int .u64 ((Qki l2 a).f1))) (fun _ hk=>hk.2) (.string ((Qki l2 a).f2))) (fun _ hk=>hk.2) (.string ((Qki l2 a).f3))) (fun _ h_=>h_.1))) hb) (Qfd (g:=j) (o:=.cells #[.int .u8 m,.int .u32 n] 27 (0,0)) qq_9 hb) (Qfd (g:=q) (o:=.cells #[.bool ((Qki l2 a).f0),.int .u64 ((Qki l2 a).f1),.string ((Qki l2 a).f2),.string ((Qki l2 a).f3)] 39 (0,0)) qq_x hb) (Qgi qq_b hb);clear r c l HB;obtain⟨r,c,l,HB⟩:=n_;(try clear hb);(try clear hb2);(try clear hk);(try clear hi)) |((with_reducible refine Qjt (b:=.append) (xs:=#[.tmp 21,.tmp 29]) rfl ?_);at_builtin;refine Kd.R_append k122 (w0:=w) w.heap.size rfl (.tmp 21) (.tmp 29) 49 122 (.agg #[(.int .u64 0),(.int .u32 0)]) 16 rfl Tryz.underlying49 Qkf rfl (by decide) (by omega) u9 t (⟨v,((d.size:Int))%4294967296⟩:S122) [.int .u64 v,.int .u32 (((d.size:Int))%4294967296)] (fun _=>True) (fun _=>False) rfl rfl ?aP (fun _ hk=>hk.elim) ?aF ?aO ?aB ?aS ?aL ?_;(case aP=>exact Qks _ _ _ (⟨v,((d.size:Int))%4294967296⟩:S122));(case aB=>exact qq_b);(case aF=>exact(fun _ _=>trivial));(case aO=>exact qq_3);(case aS=>exact(Qgh qq_b));(case aL=>have:=aa.out;omega);intro aQ aW ho hb hg hat;rw[← ab.out]at ho;have n_:=qn4 (Qeq (g:=j) (o:=.cells #[.int .u8 m,.int .u32 n] 27 (0,0)) qq_0 hg (Kd.R_ne r.out c.out (by decide))) (Qeq (g:=q) (o:=.cells #[.bool ((Qki l2 a).f0),.int .u64 ((Qki l2 a).f1),.string ((Qki l2 a).f2),.string ((Qki l2 a).f3)] 39 (0,0)) qq_0 hg (Kd.R_ne r.out l.out (by decide))) (hb) (ho);clear c l HB r;obtain⟨c,l,HB,D⟩:=n_;clear ho hb hg hat;obtain⟨am,an,ao,ap⟩:=qc4 l.out;have aM:=Qep l.out) |((with_reducible refine Qjs (f:=22) rfl ?_);refine Qhs (some 33) rfl rfl Tryz.func22 qq_7 rfl #[.agg #[.bool ((Qki l2 a).f0),.int .u64 ((Qki l2 a).f1),.string ((Qki l2 a).f2),.string ((Qki l2 a).f3)]] rfl qq_1 ?_;(with_reducible refine(Qbo.calls k1 ((Qki l2 a).f0) ((Qki l2 a).f1) ((Qki l2 a).f2) ((Qki l2 a).f3) s _ av.out).mono ?_);rintro e aX ⟨rfl,hb⟩;refine⟨_,rfl,?_⟩;have n_:=qn4 (Kd.R_below qq_3 hb) (Qfd (g:=j) (o:=.cells #[.int .u8 m,.int .u32 n] 27 (0,0)) qq_0 hb) (Qfd (g:=q) (o:=.cells #[.bool ((Qki l2 a).f0),.int .u64 ((Qki l2 a).f1),.string ((Qki l2 a).f2),.string ((Qki l2 a).f3)] 39 (0,0)) qq_0 hb) (Qgi qq_b hb);clear D c l HB;obtain⟨D,c,l,HB⟩:=n_;(try clear hb);(try clear hb2);(try clear hk);(try clear hi)))
        go_roundg k1
        case measure=>have:=HK1.out;omega
        case rel=>exact⟨(d++s),(J),(wrap64 (a+1)),qq_8,qq_8,H',⟨by have:=HK1.out;omega⟩,⟨by(with_reducible repeat(first|apply Kd.R_alloc|apply Kd.R_drewN|apply Kd.R_drew));exact D.out⟩,⟨by(with_reducible repeat(first|apply Qfc|apply Qfb|apply Qfa));exact c.out⟩,⟨qq_b⟩⟩
       ·rw[if_neg E]at H;exact absurd H (by simp)
      ·rw[if_neg M]at H;exact absurd H (by simp)
     ·rw[if_neg c10]at H;exact absurd H (by simp)
    ·rw[if_neg c9]at H;exact absurd H (by simp)
   ·rw[if_neg c8]at H;have ag:decide (a<(l2.length:Int))=false:=decide_eq_false c8;clear c8;replace H:=Option.bind_eq_some_iff.mp H;obtain⟨X,Y,H⟩:=H;replace H:(some (d,X))=some (r1,r2):=H;have aw:=QA Y;clear Y;simp only[Option.some.injEq,Prod.mk.injEq]at H;obtain⟨rfl,rfl⟩:=H;obtain⟨Ao23,co23,eo23⟩:=Kd.R_slice r.out;subst eo23
    go_wp2_with (first |((with_reducible refine Qjs (f:=66) rfl ?_);refine Qhs (some 38) rfl rfl Tryz.func66 qq_7 rfl #[.slice Ao23 t.length co23] rfl qq_1 ?_;(with_reducible refine(Qbu.calls k1 _ _ t X _ ?side1 ?side2 aw.out).mono ?_);(case side1=>repeat(first|exact(Kd.R_reads' r.out).2.2 |(with_reducible refine Kd.C_alloc ?_ _) |(with_reducible refine Kd.C_drewN ?_ _) |(with_reducible refine Kd.C_drew ?_)));(case side2=>exact(Kd.R_reads' r.out).2.1);rintro e aY ⟨aR,rfl,Z,hb⟩;refine⟨_,rfl,?_⟩;have n_:=qn4 (Kd.R_elder' qq_3 (Kd.R_base Z) hb) (Kd.R_lower (Kd.R_new' Z (Kd.R_lt qq_3)) (Qgh qq_b)) (Qfd (g:=j) (o:=.cells #[.int .u8 m,.int .u32 n] 27 (0,0)) qq_0 hb) (Qgi qq_b hb);clear r c HB;obtain⟨r,ac,c,HB⟩:=n_;(try clear hb);(try clear hb2);(try clear hk);(try clear hi);(try clear Z)))
    go_ret2
    exact⟨_,by first|rfl |(simp[Qjz,Qka]<;>rfl) |(simp[*,Qjz,Qka]<;>rfl),by(with_reducible repeat(first|apply Kd.R_alloc|apply Kd.R_drewN|apply Kd.R_drew));exact Kd.R_mono ac.out (fun _ hk=>trivial),qq_b⟩
def Qch.f(k:Nat)(a0_0:Int)(a0_1:Int)(a1:Int)(l2:List (S39))(a3:Bool):Option (ByteArray):=(Qcg.f k a0_0 a0_1 a1 l2).bind fun bt488=>(if a3=true then((Qca.f k (((bt488.1.size:Int))%4294967296) bt488.2).bind fun t492=>(if bt488.1.size+t492.size≤9223372036854775807 then((Qbm.f k a0_0 a0_1).bind fun t493=>((Qcf.f k (wrap64 ((wrap64 (t493))-((bt488.1++t492).size:Int)))).bind fun t494=>(if(bt488.1++t492).size+t494.size≤9223372036854775807 then(some ((bt488.1++t492)++t494))else(none))))else(none)))else((Qbm.f k a0_0 a0_1).bind fun t495=>((Qcf.f k (wrap64 ((wrap64 (t495))-(bt488.1.size:Int)))).bind fun t496=>(if bt488.1.size+t496.size≤9223372036854775807 then(some (bt488.1++t496))else(none)))))
theorem Qch.calls(k:Nat)(d:Int)(j:Int)(a1:Int)(A2:Option Addr)(c2:Nat)(l2:List (S39))(a3:Bool)(r:ByteArray)(w:World)(hr2:Kd.C k39 w A2 l2.length l2)(hc2:l2.length≤c2)(h:Qch.f k d j a1 l2 a3=some r) :
  Calls Tryz.prog 31 #[.agg #[.int .u8 d,.int .u32 j],.int .u64 a1,.slice A2 l2.length c2,.bool a3] w fun e w'=>e=.returned (.string r)∧Below w.heap.size w w':=by
 have hu27:=Tryz.underlying27;have hu131:=Tryz.underlying131;have J:=QA hr2;have K:=QA hc2;clear hr2 hc2;have HB:=QA (Below.refl w.heap.size w);have H:((Qcg.f k d j a1 l2).bind fun bt488=>(if a3=true then((Qca.f k (((bt488.1.size:Int))%4294967296) bt488.2).bind fun b=>(if bt488.1.size+b.size≤9223372036854775807 then((Qbm.f k d j).bind fun q=>((Qcf.f k (wrap64 ((wrap64 (q))-((bt488.1++b).size:Int)))).bind fun l=>(if(bt488.1++b).size+l.size≤9223372036854775807 then(some ((bt488.1++b)++l))else(none))))else(none)))else((Qbm.f k d j).bind fun s=>((Qcf.f k (wrap64 ((wrap64 (s))-(bt488.1.size:Int)))).bind fun m=>(if bt488.1.size+m.size≤9223372036854775807 then(some (bt488.1++m))else(none))))))=some r:=h;clear h;replace H:=Option.bind_eq_some_iff.mp H;obtain⟨⟨a,t⟩,L,H⟩:=H;replace H:(if a3=true then((Qca.f k (((a.size:Int))%4294967296) t).bind fun b=>(if a.size+b.size≤9223372036854775807 then((Qbm.f k d j).bind fun q=>((Qcf.f k (wrap64 ((wrap64 (q))-((a++b).size:Int)))).bind fun l=>(if(a++b).size+l.size≤9223372036854775807 then(some ((a++b)++l))else(none))))else(none)))else((Qbm.f k d j).bind fun s=>((Qcf.f k (wrap64 ((wrap64 (s))-(a.size:Int)))).bind fun m=>(if a.size+m.size≤9223372036854775807 then(some (a++m))else(none)))))=some r:=H;have A5:=QA L;clear L
 by_cases c6:a3=true
 ·subst c6;have H1:((Qca.f k (((a.size:Int))%4294967296) t).bind fun b=>(if a.size+b.size≤9223372036854775807 then((Qbm.f k d j).bind fun q=>((Qcf.f k (wrap64 ((wrap64 (q))-((a++b).size:Int)))).bind fun l=>(if(a++b).size+l.size≤9223372036854775807 then(some ((a++b)++l))else(none))))else(none)))=some r:=by rw[if_pos rfl]at H;exact H
  clear H;have H:=H1;clear H1;replace H:=Option.bind_eq_some_iff.mp H;obtain⟨b,M,H⟩:=H;replace H:(if a.size+b.size≤9223372036854775807 then((Qbm.f k d j).bind fun q=>((Qcf.f k (wrap64 ((wrap64 (q))-((a++b).size:Int)))).bind fun l=>(if(a++b).size+l.size≤9223372036854775807 then(some ((a++b)++l))else(none))))else(none))=some r:=H;have A7:=QA M;clear M
  by_cases c8:a.size+b.size≤9223372036854775807
  ·rw[if_pos c8]at H;have ao:=eq_true c8;have ap:decide (a.size+b.size≤9223372036854775807)=true:=decide_eq_true c8
   try have aq:(9223372036854775807<a.size+b.size)=False:=eq_false (Nat.not_lt.2 c8)
   replace H:=Option.bind_eq_some_iff.mp H;obtain⟨q,O,H⟩:=H;replace H:((Qcf.f k (wrap64 ((wrap64 (q))-((a++b).size:Int)))).bind fun l=>(if(a++b).size+l.size≤9223372036854775807 then(some ((a++b)++l))else(none)))=some r:=H;have A9:=QA O;clear O;replace H:=Option.bind_eq_some_iff.mp H;obtain⟨l,y,H⟩:=H;replace H:(if(a++b).size+l.size≤9223372036854775807 then(some ((a++b)++l))else(none))=some r:=H;simp only[ByteArray.size_append,Int.natCast_add]at y;have ac:=QA y;clear y
   by_cases u:(a++b).size+l.size≤9223372036854775807
   ·rw[if_pos u]at H;have af:=eq_true u;have ag:decide ((a++b).size+l.size≤9223372036854775807)=true:=decide_eq_true u
    try have z:(9223372036854775807<(a++b).size+l.size)=False:=eq_false (Nat.not_lt.2 u)
    try have D:=z
    try simp only[ByteArray.size_append,(show ∀x_:UInt8,(⟨#[x_]⟩:ByteArray).size=1 from fun _=>rfl),(show ∀x_ y_:UInt8,(⟨#[x_,y_]⟩:ByteArray).size=2 from fun _ _=>rfl)]at D
    try have E:=z
    try simp only[ByteArray.size_append,ByteArray.size_extract,(show ∀x_:UInt8,(⟨#[x_]⟩:ByteArray).size=1 from fun _=>rfl),(show ∀x_ y_:UInt8,(⟨#[x_,y_]⟩:ByteArray).size=2 from fun _ _=>rfl)]at E
    obtain rfl:=Option.some.inj H
    go_enter Tryz.func31,Tryz.ntmps31
    go_wp2_with (first |((with_reducible refine Qgt (N:=4) rfl ?_);refine qq_e 4 #[.int .u8 d,.int .u32 j] 27 ?_;intro p hg ar hbox hb;have n_:=qn4 (Qgi qq_b hb) (hbox) (qq_s hg:w.heap.size≤p) (qq_s hg:w.heap.size≤p);clear HB;obtain⟨HB,c,G,I⟩:=n_;clear hb hbox hg;obtain⟨T,U⟩:=qc2 c.out;have ah:=Qep c.out) |((with_reducible refine Qjs (f:=27) rfl ?_);refine Qhs (some 15) rfl rfl Tryz.func27 qq_7 rfl #[.agg #[.int .u8 d,.int .u32 j],.int .u64 a1,.slice A2 l2.length c2] rfl qq_1 ?_;(with_reducible refine(Qcg.calls k d j a1 _ _ l2 a t _ ?side1 ?side2 A5.out).mono ?_);(case side1=>repeat(first|exact(Kd.C_below J.out HB.out) |(with_reducible refine Kd.C_alloc ?_ _) |(with_reducible refine Kd.C_drewN ?_ _) |(with_reducible refine Kd.C_drew ?_)));(case side2=>exact K.out);rintro e au ⟨P,rfl,v,hb⟩;refine⟨_,rfl,?_⟩;have n_:=qn3 (Kd.R_lower v (Qgh qq_b)) (Qfd (g:=p) (o:=.cells #[.int .u8 d,.int .u32 j] 27 (0,0)) qq_0 hb) (Qgi qq_b hb);clear c HB;obtain⟨n,c,HB⟩:=n_;(try clear hb);(try clear hb2);(try clear hk);(try clear hi);(try clear v);obtain⟨Ao15,co15,eo15⟩:=Kd.R_slice n.out;subst eo15) |((with_reducible refine Qjs (f:=71) rfl ?_);refine Qhs (some 25) rfl rfl Tryz.func71 qq_7 rfl #[.agg #[.int .u32 (((a.size:Int))%4294967296),.slice Ao15 t.length co15]] rfl qq_1 ?_;(with_reducible refine(Qca.calls k (((a.size:Int))%4294967296) _ _ t b _ ?side1 ?side2 A7.out).mono ?_);(case side1=>repeat(first|exact(Kd.R_reads' n.out).2.2 |(with_reducible refine Kd.C_alloc ?_ _) |(with_reducible refine Kd.C_drewN ?_ _) |(with_reducible refine Kd.C_drew ?_)));(case side2=>exact(Kd.R_reads' n.out).2.1);rintro e av ⟨rfl,hb⟩;refine⟨_,rfl,?_⟩;have n_:=qn3 (Kd.R_below qq_3 hb) (Qfd (g:=p) (o:=.cells #[.int .u8 d,.int .u32 j] 27 (0,0)) qq_0 hb) (Qgi qq_b hb);clear n c HB;obtain⟨n,c,HB⟩:=n_;(try clear hb);(try clear hb2);(try clear hk);(try clear hi);obtain⟨W,X⟩:=qc2 c.out;have ai:=Qep c.out) |((with_reducible refine Qjs (f:=63) rfl ?_);refine Qhs (some 29) rfl rfl Tryz.func63 qq_7 rfl #[.agg #[.int .u8 d,.int .u32 j]] rfl qq_1 ?_;(with_reducible refine(Qbm.calls k d j q _ A9.out).mono ?_);rintro e aw ⟨rfl,hb⟩;refine⟨_,rfl,?_⟩;have n_:=qn3 (Kd.R_below qq_3 hb) (Qfd (g:=p) (o:=.cells #[.int .u8 d,.int .u32 j] 27 (0,0)) qq_0 hb) (Qgi qq_b hb);clear n c HB;obtain⟨n,c,HB⟩:=n_;(try clear hb);(try clear hb2);(try clear hk);(try clear hi)) |((with_reducible refine Qjs (f:=72) rfl ?_);refine Qhs (some 34) rfl rfl Tryz.func72 qq_7 rfl #[.int .i64 (wrap64 ((wrap64 (q))-((a.size:Int)+(b.size:Int))))] rfl qq_1 ?_;(with_reducible refine(Qcf.calls k _ l _ ac.out).mono ?_);rintro e ax ⟨rfl,hb⟩;refine⟨_,rfl,?_⟩;have n_:=qn3 (Kd.R_below qq_3 hb) (Qfd (g:=p) (o:=.cells #[.int .u8 d,.int .u32 j] 27 (0,0)) qq_0 hb) (Qgi qq_b hb);clear n c HB;obtain⟨n,c,HB⟩:=n_;(try clear hb);(try clear hb2);(try clear hk);(try clear hi)))
    go_ret
    exact⟨by first|rfl |(simp[Qjz,Qka]<;>rfl) |(simp[*,Qjz,Qka]<;>rfl),qq_b⟩
   ·rw[if_neg u]at H;exact absurd H (by simp)
  ·rw[if_neg c8]at H;exact absurd H (by simp)
 ·replace c6:=Bool.eq_false_iff.mpr c6;subst c6;have H1:((Qbm.f k d j).bind fun s=>((Qcf.f k (wrap64 ((wrap64 (s))-(a.size:Int)))).bind fun m=>(if a.size+m.size≤9223372036854775807 then(some (a++m))else(none))))=some r:=by rw[if_neg (show ¬(false=true)by decide)]at H;exact H
  clear H;have H:=H1;clear H1;replace H:=Option.bind_eq_some_iff.mp H;obtain⟨s,A,H⟩:=H;replace H:((Qcf.f k (wrap64 ((wrap64 (s))-(a.size:Int)))).bind fun m=>(if a.size+m.size≤9223372036854775807 then(some (a++m))else(none)))=some r:=H;have ad:=QA A;clear A;replace H:=Option.bind_eq_some_iff.mp H;obtain⟨m,B,H⟩:=H;replace H:(if a.size+m.size≤9223372036854775807 then(some (a++m))else(none))=some r:=H;have ae:=QA B;clear B
  by_cases x:a.size+m.size≤9223372036854775807
  ·rw[if_pos x]at H;have aj:=eq_true x;have ak:decide (a.size+m.size≤9223372036854775807)=true:=decide_eq_true x
   try have al:(9223372036854775807<a.size+m.size)=False:=eq_false (Nat.not_lt.2 x)
   obtain rfl:=Option.some.inj H
   go_enter Tryz.func31,Tryz.ntmps31
   go_wp2_with (first |((with_reducible refine Qgt (N:=4) rfl ?_);refine qq_e 4 #[.int .u8 d,.int .u32 j] 27 ?_;intro p hg ay hbox hb;have n_:=qn4 (Qgi qq_b hb) (hbox) (qq_s hg:w.heap.size≤p) (qq_s hg:w.heap.size≤p);clear HB;obtain⟨HB,c,G,I⟩:=n_;clear hb hbox hg;obtain⟨Y,Z⟩:=qc2 c.out;have am:=Qep c.out) |((with_reducible refine Qjs (f:=27) rfl ?_);refine Qhs (some 15) rfl rfl Tryz.func27 qq_7 rfl #[.agg #[.int .u8 d,.int .u32 j],.int .u64 a1,.slice A2 l2.length c2] rfl qq_1 ?_;(with_reducible refine(Qcg.calls k d j a1 _ _ l2 a t _ ?side1 ?side2 A5.out).mono ?_);(case side1=>repeat(first|exact(Kd.C_below J.out HB.out) |(with_reducible refine Kd.C_alloc ?_ _) |(with_reducible refine Kd.C_drewN ?_ _) |(with_reducible refine Kd.C_drew ?_)));(case side2=>exact K.out);rintro e az ⟨P,rfl,v,hb⟩;refine⟨_,rfl,?_⟩;have n_:=qn3 (Kd.R_lower v (Qgh qq_b)) (Qfd (g:=p) (o:=.cells #[.int .u8 d,.int .u32 j] 27 (0,0)) qq_0 hb) (Qgi qq_b hb);clear c HB;obtain⟨n,c,HB⟩:=n_;(try clear hb);(try clear hb2);(try clear hk);(try clear hi);(try clear v);obtain⟨aa,ab⟩:=qc2 c.out;have an:=Qep c.out) |((with_reducible refine Qjs (f:=63) rfl ?_);refine Qhs (some 29) rfl rfl Tryz.func63 qq_7 rfl #[.agg #[.int .u8 d,.int .u32 j]] rfl qq_1 ?_;(with_reducible refine(Qbm.calls k d j s _ ad.out).mono ?_);rintro e aA ⟨rfl,hb⟩;refine⟨_,rfl,?_⟩;have n_:=qn3 (Kd.R_below qq_3 hb) (Qfd (g:=p) (o:=.cells #[.int .u8 d,.int .u32 j] 27 (0,0)) qq_0 hb) (Qgi qq_b hb);clear n c HB;obtain⟨n,c,HB⟩:=n_;(try clear hb);(try clear hb2);(try clear hk);(try clear hi)) |((with_reducible refine Qjs (f:=72) rfl ?_);refine Qhs (some 34) rfl rfl Tryz.func72 qq_7 rfl #[.int .i64 (wrap64 ((wrap64 (s))-(a.size:Int)))] rfl qq_1 ?_;(with_reducible refine(Qcf.calls k (wrap64 ((wrap64 (s))-(a.size:Int))) m _ ae.out).mono ?_);rintro e aB ⟨rfl,hb⟩;refine⟨_,rfl,?_⟩;have n_:=qn3 (Kd.R_below qq_3 hb) (Qfd (g:=p) (o:=.cells #[.int .u8 d,.int .u32 j] 27 (0,0)) qq_0 hb) (Qgi qq_b hb);clear n c HB;obtain⟨n,c,HB⟩:=n_;(try clear hb);(try clear hb2);(try clear hk);(try clear hi)))
   go_ret
   exact⟨by first|rfl |(simp[Qjz,Qka]<;>rfl) |(simp[*,Qjz,Qka]<;>rfl),qq_b⟩
  ·rw[if_neg x]at H;exact absurd H (by simp)
def Qci.l0:Nat→ByteArray→List (List (S39))→List (List (S39))→Int→Int→Int→Int→Option (ByteArray × Int)
 | 0,_,_,_,_,_,_,_=>none
 | k+1,x8,x9,x24,x25,x26,x518000,x518001=>if x26<x25 then(if 0≤x26 then(if x26<(x24.length:Int)then((Qch.f k x518000 x518001 (IntKind.u64.wrap (x26)) (Qkp x24 x26) (decide (x26<(wrap64 ((x9.length:Int)-1))))).bind fun t526=>(if x8.size+t526.size≤9223372036854775807 then(Qci.l0 k (x8++t526) x9 x24 x25 (wrap64 (x26+1)) x518000 x518001)else(none)))else(none))else(none))else(some (x8,0))
def Qci.f(k:Nat)(a0_0:Int)(a0_1:Int)(l1:List (S39)):Option (ByteArray × Int):=(Qck.f k a0_0 a0_1 l1).bind fun bt518=>(if bt518.2=0 then((Qcj.f k l1 bt518.1).bind fun t522=>(Qci.l0 k (⟨#[]⟩:ByteArray) t522 t522 (t522.length:Int) 0 a0_0 a0_1))else(some ((⟨#[]⟩:ByteArray),bt518.2)))
theorem Qci.calls (k:Nat) (d:Int) (j:Int) (A1:Option Addr) (c1:Nat) (l1:List (S39)) (r1:ByteArray) (r2:Int) (w:World) (hr1:Kd.C k39 w A1 l1.length l1) (hc1:l1.length≤c1) (h:Qci.f k d j l1=some (r1,r2)) :
  Calls Tryz.prog 34 #[.agg #[.int .u8 d,.int .u32 j],.slice A1 l1.length c1] w fun e w'=>e=.returned (.tuple #[.string r1,.int .i64 r2])∧Below w.heap.size w w':=by
 have hu27:=Tryz.underlying27;have K:=QA hr1;have L:=QA hc1;clear hr1 hc1;have HB:=QA (Below.refl w.heap.size w);have H:((Qck.f k d j l1).bind fun bt518=>(if bt518.2=0 then((Qcj.f k l1 bt518.1).bind fun a=>(Qci.l0 k (⟨#[]⟩:ByteArray) a a (a.length:Int) 0 d j))else(some ((⟨#[]⟩:ByteArray),bt518.2))))=some (r1,r2):=h;clear h;replace H:=Option.bind_eq_some_iff.mp H;obtain⟨⟨u,n⟩,ab,H⟩:=H;replace H:(if n=0 then((Qcj.f k l1 u).bind fun a=>(Qci.l0 k (⟨#[]⟩:ByteArray) a a (a.length:Int) 0 d j))else(some ((⟨#[]⟩:ByteArray),n)))=some (r1,r2):=H;have A3:=QA ab;clear ab
 by_cases c4:n=0
 ·rw [if_pos c4]at H;have M:(n == 0)=true:=beq_iff_eq.mpr c4;have O:(n != 0)=false:=bne_eq_false_iff_eq.mpr c4;clear c4;replace H:=Option.bind_eq_some_iff.mp H;obtain⟨a,ac,H⟩:=H;replace H:(Qci.l0 k (⟨#[]⟩:ByteArray) a a (a.length:Int) 0 d j)=some (r1,r2):=H;have A5:=QA ac;clear ac;have H':=QA H;clear H
  go_enter Tryz.func34,Tryz.ntmps34
  go_wp2_with (first |((with_reducible refine Qgt (N:=2) rfl ?_);refine qq_e 2 #[.int .u8 d,.int .u32 j] 27 ?_;intro l hg w6 hbox hb;have n_:=qn4 (Qgi qq_b hb) (hbox) (qq_s hg:w.heap.size≤l) (qq_s hg:w.heap.size≤l);clear HB;obtain⟨HB,c,Y,Z⟩:=n_;clear hb hbox hg;obtain⟨P,T⟩:=qc2 c.out;have ad:=Qep c.out) |((with_reducible refine Qjs (f:=39) rfl ?_);refine Qhs (some 15) rfl rfl Tryz.func39 qq_7 rfl #[.agg #[.int .u8 d,.int .u32 j],.slice A1 l1.length c1] rfl qq_1 ?_;(with_reducible refine(Qck.calls k d j _ _ l1 u n _ ?side1 ?side2 A3.out).mono ?_);(case side1=>repeat(first|exact(Kd.C_below K.out HB.out) |(with_reducible refine Kd.C_alloc ?_ _) |(with_reducible refine Kd.C_drewN ?_ _) |(with_reducible refine Kd.C_drew ?_)));(case side2=>exact L.out);rintro e w8 ⟨ae,rfl,t,hb⟩;refine⟨_,rfl,?_⟩;have n_:=qn3 (Kd.R_lower t (Qgh qq_b)) (Qfd (g:=l) (o:=.cells #[.int .u8 d,.int .u32 j] 27 (0,0)) qq_0 hb) (Qgi qq_b hb);clear c HB;obtain⟨r,c,HB⟩:=n_;(try clear hb);(try clear hb2);(try clear hk);(try clear hi);(try clear t);obtain⟨Ao9,co9,eo9⟩:=Kd.R_slice r.out;subst eo9) |((with_reducible refine Qjs (f:=74) rfl ?_);refine Qhs (some 23) rfl rfl Tryz.func74 qq_7 rfl #[.slice A1 l1.length c1,.slice Ao9 u.length co9] rfl qq_1 ?_;(with_reducible refine(Qcj.calls k _ _ l1 _ _ u a _ ?side1 ?side2 ?side3 ?side4 A5.out).mono ?_);(case side1=>repeat(first|exact(Kd.C_below K.out HB.out) |(with_reducible refine Kd.C_alloc ?_ _) |(with_reducible refine Kd.C_drewN ?_ _) |(with_reducible refine Kd.C_drew ?_)));(case side2=>exact L.out);(case side3=>repeat(first|exact(Kd.R_reads' r.out).2.2 |(with_reducible refine Kd.C_alloc ?_ _) |(with_reducible refine Kd.C_drewN ?_ _) |(with_reducible refine Kd.C_drew ?_)));(case side4=>exact(Kd.R_reads' r.out).2.1);rintro e ax ⟨aw,rfl,t,hb⟩;refine⟨_,rfl,?_⟩;have n_:=qn4 (Kd.R_below qq_3 hb) (Kd.S_lower t (Qgh qq_b)) (Qfd (g:=l) (o:=.cells #[.int .u8 d,.int .u32 j] 27 (0,0)) qq_0 hb) (Qgi qq_b hb);clear r c HB;obtain⟨r,x,c,HB⟩:=n_;(try clear hb);(try clear hb2);(try clear hk);(try clear hi);(try clear t);obtain⟨Ao11,co11,eo11⟩:=Kd.S_slice x.out;subst eo11))
  go_loopg [8,26] k (fun kq v8 ak w'=>∃(p:ByteArray) (b:Int),v8=.string p∧ak=.int .i64 b∧Aside0 (Qci.l0 kq p a a (a.length:Int) b d j=some (r1,r2))∧Aside0 (kq≤k)∧Aside0 (Kd.S (Kd.slice 39 k39) 23 w' w.heap.size (fun _=>True) (.slice Ao11 a.length co11) a)∧Aside0 (Kd.S (Kd.slice 39 k39) 23 w' w.heap.size (fun _=>True) (.slice Ao11 a.length co11) a)∧Aside0 (w'.heap[l]? = some (.cells #[.int .u8 d,.int .u32 j] 27 (0,0)))∧Aside0 (Below w.heap.size w w'))
  case atStart=>exact⟨((⟨#[]⟩:ByteArray)),(0),qq_8,qq_8,H',⟨Nat.le_refl _⟩,⟨by(with_reducible repeat(first|apply Kd.S_alloc|apply Kd.S_drewN|apply Kd.S_drew));exact x.out⟩,⟨by(with_reducible repeat(first|apply Kd.S_alloc|apply Kd.S_drewN|apply Kd.S_drew));exact x.out⟩,⟨by(with_reducible repeat(first|apply Qfc|apply Qfb|apply Qfa));exact c.out⟩,⟨qq_b⟩⟩
  case round =>
   clear H'
   try clear c1
   try clear c4
   try clear M
   try clear O
   try clear P
   try clear T
   try clear ad
   obtain⟨p,b,rfl,rfl,HA,HK1,y,q,c,HB⟩:=hrel
   cases gk with
   | zero=>exact absurd HA.out (by simp[Qci.l0])
   | succ k1 =>
    have H:=HA.out;clear HA;simp only[Qci.l0]at H
    by_cases v:b<(a.length:Int)
    ·rw [if_pos v]at H;have aa:decide (b<(a.length:Int))=true:=decide_eq_true v;clear v
     by_cases E:0≤b
     ·rw[if_pos E]at H;have am:decide (0≤b)=true:=decide_eq_true E;clear E
      by_cases G:b<(a.length:Int)
      ·rw[if_pos G]at H;have an:decide (b<(a.length:Int))=true:=decide_eq_true G;clear G;replace H:=Option.bind_eq_some_iff.mp H;obtain⟨s,U,H⟩:=H;replace H:(if p.size+s.size≤9223372036854775807 then(Qci.l0 k1 (p++s) a a (a.length:Int) (wrap64 (b+1)) d j)else(none))=some (r1,r2):=H;have al:=QA U;clear U
       by_cases B:p.size+s.size≤9223372036854775807
       ·rw[if_pos B]at H;have ao:=eq_true B;have ap:decide (p.size+s.size≤9223372036854775807)=true:=decide_eq_true B
        try have aq:(9223372036854775807<p.size+s.size)=False:=eq_false (Nat.not_lt.2 B)
        have H':=QA H;clear H;have z:0≤(b:Int):=of_decide_eq_true qq_6;have A:b<(a.length:Int):=of_decide_eq_true qq_6;obtain⟨ar,W,X,af,I,hl525_0,hi525_0⟩:=Qkq (Kd.S_reads' q.out).2.2 b z A
        cases af
        obtain⟨ce525,hce525,hMe525,D⟩:=Kd.S_get q.out [] b z (by first|exact A|exact of_decide_eq_true qq_6 |(have e_:=(Kd.S_reads' q.out).1;omega));obtain⟨ve525_0,rfl,ge525_0⟩:=hMe525;have hv525_0:=D 0 _ rfl;rw[Nat.add_zero,show((Kd.slice 39 k39)).sz=1 from rfl,Nat.mul_one]at hv525_0;replace hv525_0:=Option.some.inj (hv525_0.symm.trans I);rw[hv525_0]at ge525_0;have HL525_0:=QA (show Kd.R k39 39 _ _ _ _ (Qkp a b) from ge525_0);clear hv525_0 ge525_0 D hce525;have m:=QA hi525_0;have J:=QA hl525_0;clear hi525_0 hl525_0;replace z:=eq_true z;replace A:=eq_true A;obtain⟨ag,ah⟩:=qc2 c.out;have au:=Qep c.out
        go_wp2_with (first |((with_reducible refine Qjs (f:=31) rfl ?_);refine Qhs (some 41) rfl rfl Tryz.func31 qq_7 rfl #[.agg #[.int .u8 d,.int .u32 j],.int .u64 (IntKind.u64.wrap (b)),.slice W (Qkp a b).length X,.bool (decide (b<(wrap64 ((a.length:Int)-1))))] rfl qq_1 ?_;(with_reducible refine(Qch.calls k1 d j (IntKind.u64.wrap (b)) _ _ (Qkp a b) (decide (b<(wrap64 ((a.length:Int)-1)))) s _ ?side1 ?side2 al.out).mono ?_);(case side1=>repeat(first|exact(by repeat(first |(with_reducible exact m.out) |(with_reducible refine Kd.C_alloc ?_ _) |(with_reducible refine Kd.C_drewN ?_ _) |(with_reducible refine Kd.C_drew ?_)|exact m.out)) |(with_reducible refine Kd.C_alloc ?_ _) |(with_reducible refine Kd.C_drewN ?_ _) |(with_reducible refine Kd.C_drew ?_)));(case side2=>exact J.out);rintro e ay ⟨rfl,hb⟩;refine⟨_,rfl,?_⟩;have n_:=qn6 (Kd.S_below (by(with_reducible repeat(first|apply Kd.S_alloc|apply Kd.S_drewN|apply Kd.S_drew));exact y.out) hb) (Kd.S_below (by(with_reducible repeat(first|apply Kd.S_alloc|apply Kd.S_drewN|apply Kd.S_drew));exact q.out) hb) (Kd.R_below qq_3 hb) (Qfd (g:=l) (o:=.cells #[.int .u8 d,.int .u32 j] 27 (0,0)) qq_0 hb) (Kd.C_below (by repeat(first |(with_reducible exact m.out) |(with_reducible refine Kd.C_alloc ?_ _) |(with_reducible refine Kd.C_drewN ?_ _) |(with_reducible refine Kd.C_drew ?_)|exact m.out)) hb) (Qgi qq_b hb);clear y q HL525_0 c m HB;obtain⟨y,q,HL525_0,c,m,HB⟩:=n_;(try clear hb);(try clear hb2);(try clear hk);(try clear hi)))
        go_roundg k1
        case measure=>have:=HK1.out;omega
        case rel=>exact⟨(p++s),(wrap64 (b+1)),qq_8,qq_8,H',⟨by have:=HK1.out;omega⟩,⟨by(with_reducible repeat(first|apply Kd.S_alloc|apply Kd.S_drewN|apply Kd.S_drew));exact y.out⟩,⟨by(with_reducible repeat(first|apply Kd.S_alloc|apply Kd.S_drewN|apply Kd.S_drew));exact q.out⟩,⟨by(with_reducible repeat(first|apply Qfc|apply Qfb|apply Qfa));exact c.out⟩,⟨qq_b⟩⟩
       ·rw[if_neg B]at H;exact absurd H (by simp)
      ·rw[if_neg G]at H;exact absurd H (by simp)
     ·rw[if_neg E]at H;exact absurd H (by simp)
    ·rw[if_neg v]at H;have aa:decide (b<(a.length:Int))=false:=decide_eq_false v;clear v;simp only[Option.some.injEq,Prod.mk.injEq]at H;obtain⟨rfl,rfl⟩:=H;go_wp2
     go_ret2
     exact⟨by first|rfl |(simp[Qjz,Qka]<;>rfl) |(simp[*,Qjz,Qka]<;>rfl),qq_b⟩
 ·rw[if_neg c4]at H;have M:(n == 0)=false:=beq_eq_false_iff_ne.mpr c4;have O:(n != 0)=true:=bne_iff_ne.mpr c4;simp only[Option.some.injEq,Prod.mk.injEq]at H;obtain⟨rfl,rfl⟩:=H
  go_enter Tryz.func34,Tryz.ntmps34
  go_wp2_with (first |((with_reducible refine Qgt (N:=2) rfl ?_);refine qq_e 2 #[.int .u8 d,.int .u32 j] 27 ?_;intro l hg az hbox hb;have n_:=qn4 (Qgi qq_b hb) (hbox) (qq_s hg:w.heap.size≤l) (qq_s hg:w.heap.size≤l);clear HB;obtain⟨HB,c,Y,Z⟩:=n_;clear hb hbox hg;obtain⟨ai,aj⟩:=qc2 c.out;have av:=Qep c.out) |((with_reducible refine Qjs (f:=39) rfl ?_);refine Qhs (some 15) rfl rfl Tryz.func39 qq_7 rfl #[.agg #[.int .u8 d,.int .u32 j],.slice A1 l1.length c1] rfl qq_1 ?_;(with_reducible refine(Qck.calls k d j _ _ l1 u n _ ?side1 ?side2 A3.out).mono ?_);(case side1=>repeat(first|exact(Kd.C_below K.out HB.out) |(with_reducible refine Kd.C_alloc ?_ _) |(with_reducible refine Kd.C_drewN ?_ _) |(with_reducible refine Kd.C_drew ?_)));(case side2=>exact L.out);rintro e aA ⟨ae,rfl,t,hb⟩;refine⟨_,rfl,?_⟩;have n_:=qn3 (Kd.R_lower t (Qgh qq_b)) (Qfd (g:=l) (o:=.cells #[.int .u8 d,.int .u32 j] 27 (0,0)) qq_0 hb) (Qgi qq_b hb);clear c HB;obtain⟨r,c,HB⟩:=n_;(try clear hb);(try clear hb2);(try clear hk);(try clear hi);(try clear t)))
  go_ret2
  exact⟨by first|rfl |(simp[Qjz,Qka]<;>rfl) |(simp[*,Qjz,Qka]<;>rfl),qq_b⟩
def Qcm.f(k:Nat)(a0_0:Int)(a0_1:Int)(a1:ByteArray):Option (ByteArray × Int × Int):=(Qbl.f a0_0 a0_1).bind fun t796=>(if t796=true then((Qbr.f k a1).bind fun bt797=>(if bt797.2.2=0 then((Qcl.f k bt797.1).bind fun t802=>((Qci.f k a0_0 a0_1 t802).bind fun bt805=>(some (bt805.1,0,bt805.2))))else(some ((⟨#[]⟩:ByteArray),bt797.2.1,bt797.2.2))))else(some ((⟨#[]⟩:ByteArray),0,1)))
def Qcm.T6:Bool × List (List Nat × List Nat):=(true,[([],[]),([],[]),([1],[1]),([0,2,2],[0,2]),([3],[3]),([4],[4]),([4],[4]),([5,3,0,1,2,3,4,5],[5]),([6,7,0,1,2,3,4,5,6,7],[6])])
def Qcm.B6:List Nat:=[0,0,2,7,15,31,31,63,255]
theorem Qcm.tab6:rtab .any (Qjb Tryz.f44 6)=Qcm.T6:=by kernel_rfl
theorem Qcm.bits6:Qiv Qcm.T6.2 Qcm.B6=true:=by kernel_rfl
theorem Qcm.calls(k:Nat)(b:Int)(c:Int)(a1:ByteArray)(r1:ByteArray)(r2:Int)(r3:Int)(w:World)(h:Qcm.f k b c a1=some (r1,r2,r3)) :
  Calls Tryz.prog 44 #[.agg #[.int .u8 b,.int .u32 c],.string a1] w fun e w'=>e=.returned (.tuple #[.string r1,.int .i64 r2,.int .i64 r3])∧Below w.heap.size w w':=by
 have hu27:=Tryz.underlying27;have HB:=QA (Below.refl w.heap.size w);have H:((Qbl.f b c).bind fun t=>(if t=true then((Qbr.f k a1).bind fun bt797=>(if bt797.2.2=0 then((Qcl.f k bt797.1).bind fun l=>((Qci.f k b c l).bind fun bt805=>(some (bt805.1,0,bt805.2))))else(some ((⟨#[]⟩:ByteArray),bt797.2.1,bt797.2.2))))else(some ((⟨#[]⟩:ByteArray),0,1))))=some (r1,r2,r3):=h;clear h;replace H:=Option.bind_eq_some_iff.mp H;obtain⟨t,B,H⟩:=H;replace H:(if t=true then((Qbr.f k a1).bind fun bt797=>(if bt797.2.2=0 then((Qcl.f k bt797.1).bind fun l=>((Qci.f k b c l).bind fun bt805=>(some (bt805.1,0,bt805.2))))else(some ((⟨#[]⟩:ByteArray),bt797.2.1,bt797.2.2))))else(some ((⟨#[]⟩:ByteArray),0,1)))=some (r1,r2,r3):=H;have A3:=QA B;clear B
 by_cases c4:t=true
 ·subst c4;have H1:((Qbr.f k a1).bind fun bt797=>(if bt797.2.2=0 then((Qcl.f k bt797.1).bind fun l=>((Qci.f k b c l).bind fun bt805=>(some (bt805.1,0,bt805.2))))else(some ((⟨#[]⟩:ByteArray),bt797.2.1,bt797.2.2))))=some (r1,r2,r3):=by rw[if_pos rfl]at H;exact H
  clear H;have H:=H1;clear H1;replace H:=Option.bind_eq_some_iff.mp H;obtain⟨⟨s,u,m⟩,D,H⟩:=H;replace H:(if m=0 then((Qcl.f k s).bind fun l=>((Qci.f k b c l).bind fun bt805=>(some (bt805.1,0,bt805.2))))else(some ((⟨#[]⟩:ByteArray),u,m)))=some (r1,r2,r3):=H;have A5:=QA D;clear D
  by_cases c6:m=0
  ·rw[if_pos c6]at H;have I:(m == 0)=true:=beq_iff_eq.mpr c6;have J:(m != 0)=false:=bne_eq_false_iff_eq.mpr c6;clear c6;replace H:=Option.bind_eq_some_iff.mp H;obtain⟨l,E,H⟩:=H;replace H:((Qci.f k b c l).bind fun bt805=>(some (bt805.1,0,bt805.2)))=some (r1,r2,r3):=H;have A7:=QA E;clear E;replace H:=Option.bind_eq_some_iff.mp H;obtain⟨⟨z,A⟩,G,H⟩:=H;replace H:(some (z,0,A))=some (r1,r2,r3):=H;have A8:=QA G;clear G;simp only[Option.some.injEq,Prod.mk.injEq]at H;obtain⟨rfl,rfl,rfl⟩:=H
   go_enter Tryz.func44,Tryz.ntmps44
   try go_wp2_with (first |((with_reducible refine Qgt (N:=2) rfl ?_);refine qq_e 2 #[.int .u8 b,.int .u32 c] 27 ?_;intro d hg w9 hbox hb;have n_:=qn4 (Qgi qq_b hb) (hbox) (qq_s hg:w.heap.size≤d) (qq_s hg:w.heap.size≤d);clear HB;obtain⟨HB,a,x,y⟩:=n_;clear hb hbox hg;obtain⟨M,O⟩:=qc2 a.out;have Y:=Qep a.out) |((with_reducible refine Qjs (f:=54) rfl ?_);refine Qhs (some 13) rfl rfl Tryz.func54 qq_7 rfl #[.agg #[.int .u8 b,.int .u32 c]] rfl qq_1 ?_;(with_reducible refine(Qbl.calls b c true _ A3.out).mono ?_);rintro e ac ⟨rfl,hb⟩;refine⟨_,rfl,?_⟩;have n_:=qn2 (Qfd (g:=d) (o:=.cells #[.int .u8 b,.int .u32 c] 27 (0,0)) qq_0 hb) (Qgi qq_b hb);clear a HB;obtain⟨a,HB⟩:=n_;(try clear hb);(try clear hb2);(try clear hk);(try clear hi)) |((with_reducible refine Qjs (f:=88) rfl ?_);refine Qhs (some 17) rfl rfl Tryz.func88 qq_7 rfl #[.string a1] rfl qq_1 ?_;(with_reducible refine(Qbr.calls k a1 s u m _ A5.out).mono ?_);rintro e X ⟨L,rfl,q,hb⟩;refine⟨_,rfl,?_⟩;have n_:=qn3 (Kd.R_lower q (Qgh qq_b)) (Qfd (g:=d) (o:=.cells #[.int .u8 b,.int .u32 c] 27 (0,0)) qq_0 hb) (Qgi qq_b hb);clear a HB;obtain⟨j,a,HB⟩:=n_;(try clear hb);(try clear hb2);(try clear hk);(try clear hi);(try clear q)))
   have n_:=qn3 (Kd.R_drew j.out) (Qfb a.out) (Qgp HB.out);clear j a HB;obtain⟨j,a,HB⟩:=n_;obtain⟨Ao14,co14,eo14⟩:=Kd.R_slice j.out
   (first|subst eo14 |(injection eo14 with f1_ f2_ f3_;have f4_:=f1_.symm;have f5_:=f3_.symm;clear f1_ f2_ f3_;subst f4_;subst f5_))
   refine Qhg (n:=9) (S:=fun w'=>w'.cell? ⟨d,0,none⟩=some (.int .u8 b)∧w'.cell? ⟨d,1,none⟩=some (.int .u32 c)) (ds:=[]) (bm 9 0) qq_7 rfl rfl ⟨(Qeo a.out 0).trans rfl,(Qeo a.out 1).trans rfl⟩ (fun r=>?_);refine Qiz Qcm.tab6 Qcm.bits6 (fun HT_ HW_=>?_);generalize X.drew=w13 at j a HB r ⊢;refine Qhj (i:=1) (N:=some 27) (v:=?_) (a':=?_) (bm 9 2) rfl rfl (Qir HT_.out qq_7) (fun _ _ _ h=>h) (Or.inl ⟨by rfl,?_⟩) ?_ ?_;rotate_left
   ·intro w';go_simp;with_reducible rfl
   rotate_left
   ·exact qq_2
   refine Qhi (i:=0) (N:=some 26) (v:=?_) (a':=?_) (bm 9 3) rfl rfl (Qiy HT_.out HW_.out qq_7) (fun _ _ _ h=>h) (Or.inl ⟨by rfl,?_⟩) r ?_ ?_;rotate_left
   ·rintro w' ⟨s0,s1⟩;go_simp;with_reducible rfl
   rotate_left
   ·exact qq_2
   refine one_ (i:=2) (N:=some 28) (bm 9 7) rfl rfl (Qis HT_.out qq_7) (by decide) (fun K hK=>?_);refine Qhr Tryz.func89 qq_7 rfl #[.slice Ao14 s.length co14] (by rfl) rfl rfl qq_1 ?_;with_reducible refine(Qcl.calls k _ _ s l _ ?side1 ?side2 A7.out).mono ?_
   (case side1=>repeat(first|exact(Kd.R_reads' j.out).2.2 |(with_reducible refine Kd.C_alloc ?_ _) |(with_reducible refine Kd.C_drewN ?_ _) |(with_reducible refine Kd.C_drew ?_)))
   (case side2=>exact(Kd.R_reads' j.out).2.1)
   rintro e ad ⟨ab,rfl,q,hb⟩;refine⟨_,rfl,?_⟩;have n_:=qn4 (Kd.R_below qq_3 hb) (Kd.R_lower q (Qgh qq_b)) (Qfd (g:=d) (o:=.cells #[.int .u8 b,.int .u32 c] 27 (0,0)) qq_0 hb) (Qgi qq_b hb);clear j a HB;obtain⟨j,p,a,HB⟩:=n_
   (try clear hb)
   (try clear hb2)
   (try clear hk)
   (try clear hi)
   (try clear q)
   obtain⟨Ao16,co16,eo16⟩:=Kd.R_slice p.out
   (first|subst eo16 |(injection eo16 with f1_ f2_ f3_;have f4_:=f1_.symm;have f5_:=f3_.symm;clear f1_ f2_ f3_;subst f4_;subst f5_))
   refine hK.out _ _ ⟨(Qeo a.out 0).trans rfl,(Qeo a.out 1).trans rfl⟩ (fun r=>?_);clear hK K;refine nzp_ 28 ?_;refine one_ (i:=3) (N:=some 29) (bm 9 15) rfl rfl (Qis HT_.out qq_7) (by decide) (fun K hK=>?_);refine Qhr Tryz.func34 qq_7 rfl #[.agg #[.int .u8 b,.int .u32 c],.slice Ao16 l.length co16] (by rfl) rfl rfl qq_1 ?_;with_reducible refine(Qci.calls k b c _ _ l z A _ ?side1 ?side2 A8.out).mono ?_
   (case side1=>repeat(first|exact(Kd.R_reads' p.out).2.2 |(with_reducible refine Kd.C_alloc ?_ _) |(with_reducible refine Kd.C_drewN ?_ _) |(with_reducible refine Kd.C_drew ?_)))
   (case side2=>exact(Kd.R_reads' p.out).2.1)
   rintro e ae ⟨rfl,hb⟩;refine⟨_,rfl,?_⟩;have n_:=qn4 (Kd.R_below qq_3 hb) (Kd.R_below qq_3 hb) (Qfd (g:=d) (o:=.cells #[.int .u8 b,.int .u32 c] 27 (0,0)) qq_0 hb) (Qgi qq_b hb);clear j p a HB;obtain⟨j,p,a,HB⟩:=n_
   (try clear hb)
   (try clear hb2)
   (try clear hk)
   (try clear hi)
   refine hK.out _ _ ⟨(Qeo a.out 0).trans rfl,(Qeo a.out 1).trans rfl⟩ (fun r=>?_);clear hK K;refine nzp_ 29 ?_;refine Qhj (i:=4) (N:=some 25) (v:=?_) (a':=?_) (bm 9 31) rfl rfl (Qir HT_.out qq_7) (fun _ _ _ h=>h) (Or.inl ⟨by rfl,?_⟩) ?_ ?_;rotate_left
   ·intro w';go_simp;with_reducible rfl
   rotate_left
   ·exact qq_2
   refine Qhj (i:=5) (N:=some 30) (v:=?_) (a':=?_) (bm 9 63) rfl rfl (Qir HT_.out qq_7) (fun _ _ _ h=>h) (Or.inl ⟨by rfl,?_⟩) ?_ ?_;rotate_left
   ·intro w';go_simp;with_reducible rfl
   rotate_left
   ·exact qq_2
   refine Qhj (i:=6) (N:=some 31) (v:=?_) (a':=?_) (bm 9 127) rfl rfl (Qir HT_.out qq_7) (fun _ _ _ h=>h) (Or.inl ⟨by rfl,?_⟩) ?_ ?_;rotate_left
   ·intro w';go_simp;with_reducible rfl
   rotate_left
   ·exact qq_2
   refine Qhj (i:=7) (N:=some 10) (v:=?_) (a':=?_) (bm 9 255) rfl rfl (Qir HT_.out qq_7) (fun _ _ _ h=>h) (Or.inl ⟨by rfl,?_⟩) ?_ ?_;rotate_left
   ·intro w';go_simp;with_reducible rfl
   rotate_left
   ·exact qq_2
   refine Qhj (i:=8) (N:=some 11) (v:=?_) (a':=?_) (bm 9 511) rfl rfl (Qir HT_.out qq_7) (fun _ _ _ h=>h) (Or.inl ⟨by rfl,?_⟩) ?_ ?_;rotate_left
   ·intro w';go_simp;with_reducible rfl
   rotate_left
   ·exact qq_2
   refine Qhl (Qiu HT_.out qq_7) ?_
   try go_wp2
   go_ret3
   exact⟨by first|rfl |(simp[Qjz,Qka]<;>rfl) |(simp[*,Qjz,Qka]<;>rfl),qq_b⟩
  ·rw[if_neg c6]at H;have I:(m == 0)=false:=beq_eq_false_iff_ne.mpr c6;have J:(m != 0)=true:=bne_iff_ne.mpr c6;simp only[Option.some.injEq,Prod.mk.injEq]at H;obtain⟨rfl,rfl,rfl⟩:=H
   go_enter Tryz.func44,Tryz.ntmps44
   go_wp2_with (first |((with_reducible refine Qgt (N:=2) rfl ?_);refine qq_e 2 #[.int .u8 b,.int .u32 c] 27 ?_;intro d hg af hbox hb;have n_:=qn4 (Qgi qq_b hb) (hbox) (qq_s hg:w.heap.size≤d) (qq_s hg:w.heap.size≤d);clear HB;obtain⟨HB,a,x,y⟩:=n_;clear hb hbox hg;obtain⟨P,T⟩:=qc2 a.out;have Z:=Qep a.out) |((with_reducible refine Qjs (f:=54) rfl ?_);refine Qhs (some 13) rfl rfl Tryz.func54 qq_7 rfl #[.agg #[.int .u8 b,.int .u32 c]] rfl qq_1 ?_;(with_reducible refine(Qbl.calls b c true _ A3.out).mono ?_);rintro e ag ⟨rfl,hb⟩;refine⟨_,rfl,?_⟩;have n_:=qn2 (Qfd (g:=d) (o:=.cells #[.int .u8 b,.int .u32 c] 27 (0,0)) qq_0 hb) (Qgi qq_b hb);clear a HB;obtain⟨a,HB⟩:=n_;(try clear hb);(try clear hb2);(try clear hk);(try clear hi)) |((with_reducible refine Qjs (f:=88) rfl ?_);refine Qhs (some 17) rfl rfl Tryz.func88 qq_7 rfl #[.string a1] rfl qq_1 ?_;(with_reducible refine(Qbr.calls k a1 s u m _ A5.out).mono ?_);rintro e ah ⟨L,rfl,q,hb⟩;refine⟨_,rfl,?_⟩;have n_:=qn3 (Kd.R_lower q (Qgh qq_b)) (Qfd (g:=d) (o:=.cells #[.int .u8 b,.int .u32 c] 27 (0,0)) qq_0 hb) (Qgi qq_b hb);clear a HB;obtain⟨j,a,HB⟩:=n_;(try clear hb);(try clear hb2);(try clear hk);(try clear hi);(try clear q)))
   go_ret3
   exact⟨by first|rfl |(simp[Qjz,Qka]<;>rfl) |(simp[*,Qjz,Qka]<;>rfl),qq_b⟩
 ·replace c4:=Bool.eq_false_iff.mpr c4;subst c4;have H1:(some ((⟨#[]⟩:ByteArray),0,1))=some (r1,r2,r3):=by rw[if_neg (show ¬(false=true)by decide)]at H;exact H
  clear H;have H:=H1;clear H1;simp only[Option.some.injEq,Prod.mk.injEq]at H;obtain⟨rfl,rfl,rfl⟩:=H
  go_enter Tryz.func44,Tryz.ntmps44
  go_wp2_with (first |((with_reducible refine Qgt (N:=2) rfl ?_);refine qq_e 2 #[.int .u8 b,.int .u32 c] 27 ?_;intro d hg ai hbox hb;have n_:=qn4 (Qgi qq_b hb) (hbox) (qq_s hg:w.heap.size≤d) (qq_s hg:w.heap.size≤d);clear HB;obtain⟨HB,a,x,y⟩:=n_;clear hb hbox hg;obtain⟨U,W⟩:=qc2 a.out;have aa:=Qep a.out) |((with_reducible refine Qjs (f:=54) rfl ?_);refine Qhs (some 13) rfl rfl Tryz.func54 qq_7 rfl #[.agg #[.int .u8 b,.int .u32 c]] rfl qq_1 ?_;(with_reducible refine(Qbl.calls b c false _ A3.out).mono ?_);rintro e aj ⟨rfl,hb⟩;refine⟨_,rfl,?_⟩;have n_:=qn2 (Qfd (g:=d) (o:=.cells #[.int .u8 b,.int .u32 c] 27 (0,0)) qq_0 hb) (Qgi qq_b hb);clear a HB;obtain⟨a,HB⟩:=n_;(try clear hb);(try clear hb2);(try clear hk);(try clear hi)))
  go_ret3
  exact⟨by first|rfl |(simp[Qjz,Qka]<;>rfl) |(simp[*,Qjz,Qka]<;>rfl),qq_b⟩
end Go.Proofs.YtnnofopfbeklbaaGreat.C
end
