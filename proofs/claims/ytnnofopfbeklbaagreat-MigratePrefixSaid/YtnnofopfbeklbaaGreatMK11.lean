/- Merged texts. -/
import Derived.Test.YtnnofopfbeklbaaGreatMK02
import Derived.OpenShut
import Derived.Test.YtnnofopfbeklbaaGreatMK03
import Derived.Test.YtnnofopfbeklbaaGreatMK10
import Derived.Test.YtnnofopfbeklbaaGreatMK08
import Derived.Test.YtnnofopfbeklbaaGreatMK09
set_option linter.unusedVariables false
set_option linter.unusedSimpArgs false
set_option maxHeartbeats 8000000
set_option maxRecDepth 100000
section
namespace Go.Proofs.YtnnofopfbeklbaaGreat.C
open Go.RowKit Go.Proofs.YtnnofopfbeklbaaGreatW.PrintWords Go.Proofs.YtnnofopfbeklbaaGreatW.PrintLast Go.Proofs.YtnnofopfbeklbaaGreatW.PrintMore
theorem Qqt(x:Int):0≤IntKind.u64.wrap x∧IntKind.u64.wrap x<18446744073709551616:=by
 simp[IntKind.wrap,IntKind.signed,IntKind.bits];omega
theorem Qqu(op:BinOp)(x y:Int):0≤Go.bits op .u64 x y∧Go.bits op .u64 x y<18446744073709551616:=by
 unfold Go.bits;split<;>exact Qqt _
theorem Qqv(sd:Int)(l:List Int):0≤Qnm sd l∧Qnm sd l<18446744073709551616:=by
 unfold Qnm sumP finP;split<;>exact Qqu _ _ _
def Qqw(b:List Int):List Int:=Qmd (b++leb (Qnm 0 b) 8)++[0]
theorem Qqx:∀(n:Nat) (b:List Int),b.length≤n→(Qmd b).length≤2*b.length+1
 | n,b,h=>by
  rcases Int.lt_or_le (ixOf (b.take 254) 0) 0 with h0|h0
  ·by_cases hl:254<b.length
   ·rw[Qmh h0 hl];have hd:(b.drop 254).length<b.length:=by rw[List.length_drop];omega
    cases n with
    | zero=>omega
    | succ n =>
     have:=Qqx n (b.drop 254) (by omega);simp only[List.length_cons,List.length_append,List.length_take,List.length_drop]at this ⊢;omega
   ·rw[Qmi h0 hl];simp;omega
  ·obtain⟨p,hp⟩:=Int.eq_ofNat_of_zero_le h0;have h1:=(Qmb (b.take 254) 0).2;rw[hp,List.length_take]at h1;rw[Qmg hp]
   cases n with
   | zero=>omega
   | succ n =>
    have:=Qqx n (b.drop (p+1)) qq_19;simp only[List.length_cons,List.length_append,List.length_take,List.length_drop]at this ⊢;omega
theorem R8.reads{W:World}{b:Nat}{v:Value}{xs:List Int}(h:R8 W b v xs):∃A n c,v=.slice A n c∧Aside0 (n=xs.length)∧n≤c∧Kd.C (Kd.int .u8) W A n xs:=by
 obtain⟨A,c,e,h1,h2⟩:=Kd.R_reads h;exact⟨A,_,c,e,⟨rfl⟩,h1,h2⟩
theorem Qqy(A:Option Addr)(n c:Nat)(l:List Int)(w:World)(hC:Kd.C (Kd.int .u8) w A n l)(hc:n≤c)(hl:l.length≤35184372088832) :
  Calls Tryz.prog 152 #[.slice A n c] w fun e w'=>∃v0_:Value,e=.returned (v0_)∧R8 w' w.heap.size v0_ (Qmd l)∧Below w.heap.size w w':=by
 have hn:=hC.1;subst hn;exact Qmj A c l w hC hc hl
theorem Qqz(l:List Int):([]++l++leb (Qnm 0 l) 8).length=l.length+8:=by simp[Qld]
theorem Qra(A0:Option Addr)(c0:Nat)(l0:List Int)(w:World)(hr0:Kd.C (Kd.int .u8) w A0 l0.length l0)(hl:l0.length≤35184372088824) :
  Calls Tryz.prog 96 #[.slice A0 l0.length c0] w fun e w'=>∃a:Value,e=.returned (a)∧R8 w' w.heap.size a (Qqw l0)∧Below w.heap.size w w':=by
 have hI0:=QA (IsBuf.new w w.heap.size);have hb0:Below w.heap.size w (w.alloc (.cells #[.slice none 0 0] 167)):=Qdr (Below.refl _ _) _;have hz0:w.heap.size≤(w.alloc (.cells #[.slice none 0 0] 167)).heap.size:=hb0.size;have hC0:=Kd.C_below hr0 hb0;have hh:=Qqv 0 l0
 go_enter Tryz.func96,Tryz.ntmps96
 go_wp2_with (first
  |(go_at_call 150;refine(Qlo w.heap.size w.heap.size A0 c0 l0 [] _ hC0 (Nat.le_refl _) hz0 hI0.out qq_23).mono ?_;rintro e w1 ⟨rfl,hI1,hb1⟩;have hC1:=Kd.C_below hr0 (hb0.trans hb1.1))
  |(go_at_call 101;refine(Qno 0 A0 c0 l0 w1 hC1 (by omega)).mono ?_;rintro e w2 ⟨rfl,hb2⟩;have hI2:=hI1.kept hb2)
  |(go_at_call 151;refine(Qlm w.heap.size w.heap.size _ _ w2 hh.1 hh.2 (Nat.le_refl _) (Nat.le_trans (Nat.le_trans hz0 hb1.size) hb2.size) hI2 qq_23).mono ?_;rintro e w3 ⟨rfl,hI3,hb3⟩)
  |(go_at_call 97;refine(Qlq w.heap.size w.heap.size _ w3 hI3 (by rw[Qqz];omega)).mono ?_;rintro e w4 ⟨v4,rfl,hR4,hb4⟩;obtain⟨A4,n4,c4,rfl,d,hlc4,hC4⟩:=R8.reads hR4)
  |(go_at_call 152;refine(Qqy A4 n4 c4 _ w4 hC4 hlc4 (by rw[Qqz];omega)).mono ?_;rintro e w5 ⟨v5,rfl,hR5,hb5⟩;have b:=QA hR5;have hz5:w.heap.size≤w5.heap.size:=Nat.le_trans (Nat.le_trans (Nat.le_trans (Nat.le_trans (Nat.le_trans hz0 hb1.size) hb2.size) hb3.size) hb4.size) hb5.size;have hB5:=QA (show Below w.heap.size w w5 from((((hb0.trans hb1.1).trans (Qlf hb2 (Nat.le_trans hz0 hb1.size))).trans hb3.1).trans (Qlf hb4 (Nat.le_trans (Nat.le_trans (Nat.le_trans hz0 hb1.size) hb2.size) hb3.size))).trans (Qlf hb5 (Nat.le_trans (Nat.le_trans (Nat.le_trans (Nat.le_trans hz0 hb1.size) hb2.size) hb3.size) hb4.size)));clear hR5)
  |(at_builtin;refine Kd.R_append (Kd.int .u8) (w0:=w) w.heap.size rfl (.tmp 10) (.tmp 11) 52 5 (.int .u8 0) 1 rfl Tryz.underlying52 Qkd rfl (by decide) (by omega) v5 (Qmd ([]++l0++leb (Qnm 0 l0) 8)) 0 [.int .u8 0] (fun _=>True) (fun _=>False) rfl ?ax ?aP (fun _ hk=>hk.elim) ?aF ?aO ?aB ?aS ?aL ?_;(case ax=>rfl);(case aP=>rfl);(case aF=>exact fun _ _=>trivial);(case aO=>exact b.out.low (Nat.le_trans (Nat.le_trans (Nat.le_trans (Nat.le_trans hz0 hb1.size) hb2.size) hb3.size) hb4.size));(case aB=>exact hB5.out);(case aS=>exact hz5);(case aL=>have:=Qqx _ ([]++l0++leb (Qnm 0 l0) 8) (Nat.le_refl _);rw[Qqz]at this;omega);intro v6 w6 c hb6 g hat6))
 go_ret
 exact⟨v6,rfl,c,hb6⟩
def Qcr.f(l0:List Int):Option (List Int):=if l0.length≤35184372088824 then some (Qqw l0)else none
theorem Qcr.calls(A0:Option Addr)(c0:Nat)(l0:List Int)(r:List Int)(w:World)(hr0:Kd.C (Kd.int .u8) w A0 l0.length l0)(hc0:l0.length≤c0)(h:Qcr.f l0=some r) :
  Calls Tryz.prog 96 #[.slice A0 l0.length c0] w fun e w'=>∃v0_:Value,e=.returned (v0_)∧Kd.R (Kd.int .u8) 5 w' w.heap.size (fun _=>True) v0_ r∧Below w.heap.size w w':=by
 unfold Qcr.f at h
 by_cases hl:l0.length≤35184372088824
 ·rw[if_pos hl]at h
  cases h
  exact Qra A0 c0 l0 w hr0 hl
 ·rw[if_neg hl]at h;cases h
def Qrb(e s n:Int):List Int:=Qqw ([1,2,e]++vput 9 s++vput 9 n)
def Qcp.f(a0_0 a0_1 a1:Int):Option (List Int × Int) :=
 (Qct.f a0_0 a0_1 a1).bind fun e=>if e=0 then(if 0≤a0_0∧a0_0<256∧0≤a0_1∧a0_1<4294967296∧0≤a1∧a1<4294967296 then some (Qrb a0_0 a0_1 a1,0)else none)else some ([],e)
theorem Qrc(A:Option Addr)(n c:Nat)(l:List Int)(w:World)(hC:Kd.C (Kd.int .u8) w A n l)(hl:l.length≤35184372088824) :
  Calls Tryz.prog 96 #[.slice A n c] w fun e w'=>∃v0_:Value,e=.returned (v0_)∧R8 w' w.heap.size v0_ (Qqw l)∧Below w.heap.size w w':=by
 have hn:=hC.1;subst hn;exact Qra A c l w hC hl
theorem box2{W:World}{B:Nat}{e s:Int}(h:W.heap[B]? = some (.cells #[.int .u8 e,.int .u32 s] 27 (0,0))):W.cell? ⟨B,0,none⟩=some (.int .u8 e)∧W.cell? ⟨B,1,none⟩=some (.int .u32 s) :=
 ⟨(Qep h 0).trans rfl,(Qep h 1).trans rfl⟩
theorem head_of(e s n:Int)(w:World)(hc:Qct.f e s n=some 0)(he0:0≤e)(he1:e<256)(hs0:0≤s)(hs1:s<4294967296)(b:0≤n)(d:n<4294967296) :
  Calls Tryz.prog 53 #[.agg #[.int .u8 e,.int .u32 s],.int .u32 n] w fun ee w'=>∃a:Value,ee=.returned (.tuple #[a,.int .i64 0])∧R8 w' w.heap.size a (Qrb e s n)∧Below w.heap.size w w':=by
 have hu:=Tryz.underlying27;have hl1:=Qml 9 s;have hl2:=Qml 9 n;have HC:=QA hc;clear hc;have hba:Below w.heap.size w (w.alloc (.cells #[.int .u8 e,.int .u32 s] 27)):=Qdr (Below.refl _ _) _;have hbn:=Qff w (.cells #[.int .u8 e,.int .u32 s] 27)
 go_enter Tryz.func53,Tryz.ntmps53
 go_wp2_with (first
  |(go_at_call 93;refine(Qct.calls e s n 0 _ HC.out).mono ?_;rintro ee w1 ⟨rfl,hb1⟩;have hk1:=Qfe hbn hb1;have hw1:=QA (Qdu hba hba.size hb1);have hs1':=QA (show w.heap.size<w1.heap.size from Qeo hk1);have HI1:=QA (IsBuf.new w1 w.heap.size);have hk1':=Qfb hk1 (.cells #[.slice none 0 0] 167);obtain⟨c0,c1⟩:=box2 hk1';clear hk1 hb1 hbn hba))
 obtain⟨W,hW⟩:∃W,W=w1.alloc (.cells #[.slice none 0 0] 167):=⟨_,rfl⟩;have hbW:Below w1.heap.size w1 W:=by rw[hW];exact Qdr (Below.refl _ _) _
 rw[← hW]at hk1' c0 c1 HI1 ⊢;clear hW;have hkd:=Qfe hk1' (Qds (Below.refl W.heap.size W));have hId:=HI1.out.kept (Qds (Below.refl W.heap.size W));obtain⟨j0,j1⟩:=box2 hkd;have hg:=Nat.le_of_lt hs1'.out;have hzd:w.heap.size≤W.drew.heap.size:=Nat.le_trans hg hbW.size;have hne:=Nat.ne_of_lt hs1'.out
 go_region_held3 (fun w'=>w'.cell? ⟨w.heap.size,0,none⟩=some (.int .u8 e)∧w'.cell? ⟨w.heap.size,1,none⟩=some (.int .u32 s)) (first|exact⟨j0,j1⟩|exact⟨i0,i1⟩|exact⟨i2,i3⟩|exact⟨i4,i5⟩) (first
  |(go_at_call_of 94 (Value.int .u8 1);refine(Qlj w.heap.size w1.heap.size 1 [] W.drew (by decide) (by decide) hg hzd hId (by simp)).mono ?_;rintro ee w2 ⟨rfl,hI2,hb2⟩;have hk2:=hb2.2 _ _ _ hkd (by decide) hne;obtain⟨i0,i1⟩:=box2 hk2)
  |(go_at_call_of 94 (Value.int .u8 2);refine(Qlj w.heap.size w1.heap.size 2 ([]++[1]) w2 (by decide) (by decide) hg (Nat.le_trans hzd hb2.size) hI2 (by simp)).mono ?_;rintro ee w3 ⟨rfl,hI3,hb3⟩;have hk3:=hb3.2 _ _ _ hk2 (by decide) hne;obtain⟨i2,i3⟩:=box2 hk3)
  |(go_at_call_of 94 (Value.int .u8 e);refine(Qlj w.heap.size w1.heap.size e ([]++[1]++[2]) w3 he0 he1 hg (Nat.le_trans (Nat.le_trans hzd hb2.size) hb3.size) hI3 (by simp)).mono ?_;rintro ee w4 ⟨rfl,hI4,hb4⟩;have hk4:=hb4.2 _ _ _ hk3 (by decide) hne;obtain⟨i4,i5⟩:=box2 hk4))
 have hz4:w.heap.size≤w4.heap.size:=Nat.le_trans (Nat.le_trans (Nat.le_trans hzd hb2.size) hb3.size) hb4.size;have c:=QA (show Below w.heap.size w w4 from((((hw1.out.trans (Qlf hbW hg)).trans (Qlf (Qds (Below.refl W.heap.size W)) (Nat.le_trans hg hbW.size))).trans hb2.1).trans hb3.1).trans hb4.1);clear i0 i1 i2 i3 j0 j1 hk2 hk3 hb2 hb3 hb4 hI2 hI3 hkd hId
 go_wp2_with (first
  |(go_at_call_of 95 (Value.int .u64 s);refine(Qmm w.heap.size w1.heap.size s _ w4 hs0 (by omega) hg hz4 hI4 (by simp)).mono ?_;rintro ee w5 ⟨⟨_,rfl⟩,hI5,hb5⟩)
  |(go_at_call_of 95 (Value.int .u64 n);refine(Qmm w.heap.size w1.heap.size n _ w5 b (by omega) hg (Nat.le_trans hz4 hb5.size) hI5 qq_23).mono ?_;rintro ee w6 ⟨⟨_,rfl⟩,hI6,hb6⟩)
  |(go_at_call 97;refine(Qlq w.heap.size w1.heap.size _ w6 hI6 qq_23).mono ?_;rintro ee w7 ⟨v7,rfl,hR7,hb7⟩;obtain⟨A7,n7,c7,rfl,g,hlc7,hC7⟩:=R8.reads hR7)
  |(go_at_call 96;refine(Qrc A7 n7 c7 _ w7 hC7 qq_23).mono ?_;rintro ee w8 ⟨v8,rfl,hR8,hb8⟩))
 refine bodyPost_ret (results_tmp2 rfl _ _ _) rfl ?_;have hz6:w.heap.size≤w6.heap.size:=Nat.le_trans (Nat.le_trans hz4 hb5.size) hb6.size;have hz7:w.heap.size≤w7.heap.size:=Nat.le_trans hz6 hb7.size;exact⟨v8,rfl,R8.low hR8 hz7,(((c.out.trans hb5.1).trans hb6.1).trans (Qlf hb7 hz6)).trans (Qlf hb8 hz7)⟩
theorem Qrd(e s n c:Int)(w:World)(hc:Qct.f e s n=some c)(hn:c≠0) :
  Calls Tryz.prog 53 #[.agg #[.int .u8 e,.int .u32 s],.int .u32 n] w fun ee w'=>∃v0_:Value,ee=.returned (.tuple #[v0_,.int .i64 c])∧R8 w' w.heap.size v0_ []∧Below w.heap.size w w':=by
 have hu:=Tryz.underlying27;have HC:=QA hc;clear hc;have hn1:(c == 0)=false:=by simpa using hn
 have hn2:(c != 0)=true:=by simpa using hn
 have hba:Below w.heap.size w (w.alloc (.cells #[.int .u8 e,.int .u32 s] 27)):=Qdr (Below.refl _ _) _
 go_enter Tryz.func53,Tryz.ntmps53
 go_wp2_with (go_at_call 93;refine(Qct.calls e s n c _ HC.out).mono ?_;rintro ee w1 ⟨rfl,hb1⟩)
 refine bodyPost_ret (results_tmp2 rfl _ _ _) rfl ?_;exact⟨_,rfl,Kd.R_nil _ _ _ _ _,Qdu hba hba.size hb1⟩
theorem Qcp.calls(a0_0 a0_1 a1:Int)(r1:List Int)(r2:Int)(w:World)(h:Qcp.f a0_0 a0_1 a1=some (r1,r2)) :
  Calls Tryz.prog 53 #[.agg #[.int .u8 a0_0,.int .u32 a0_1],.int .u32 a1] w fun e w'=>∃v0_:Value,e=.returned (.tuple #[v0_,.int .i64 r2])∧Kd.R (Kd.int .u8) 5 w' w.heap.size (fun _=>True) v0_ r1∧Below w.heap.size w w':=by
 unfold Qcp.f at h;obtain⟨c,hc,h⟩:=Option.bind_eq_some_iff.mp h
 by_cases h0:c=0
 ·subst h0;rw[if_pos rfl]at h
  by_cases h1:0≤a0_0∧a0_0<256∧0≤a0_1∧a0_1<4294967296∧0≤a1∧a1<4294967296
  ·rw[if_pos h1]at h
   cases h
   exact head_of _ _ _ w hc h1.1 h1.2.1 h1.2.2.1 h1.2.2.2.1 h1.2.2.2.2.1 h1.2.2.2.2.2
  ·rw[if_neg h1]at h;cases h
 ·rw[if_neg h0]at h
  cases h
  exact Qrd _ _ _ _ w hc h0
end Go.Proofs.YtnnofopfbeklbaaGreat.C
end
section
namespace Go.Proofs.YtnnofopfbeklbaaGreat.C
open Go.RowKit Go.Proofs.YtnnofopfbeklbaaGreatW.PrintWords Go.Proofs.YtnnofopfbeklbaaGreatW.PrintLast Go.Proofs.YtnnofopfbeklbaaGreatW.PrintMore
attribute [local go_sem] Qjm Qjn Qjo Qjp Qjq Qjr Qjs Qjt
mutual
def Qbc.j0:Nat→ByteArray→Int→Int→Option (Int)
 | 0,_,_,_=>none
 | k+1,x1,x5,x6=>Qbc.l0 k x1 (IntKind.u64.wrap (x6+x5))
def Qbc.l0:Nat→ByteArray→Int→Option (Int)
 | 0,_,_=>none
 | k+1,x1,x6=>if(x1.size:Int)≥8 then(if 0≤8 then(if 8≤(x1.size:Int)then((Qav.f k (x1.extract 0 8)).bind fun t274=>((Qbe.f k 0 t274).bind fun t275=>((Qbg.f k (Go.bits .xor .u64 x6 t275) 27).bind fun t276=>(Qbc.l0 k (x1.extract 8 x1.size) (IntKind.u64.wrap ((IntKind.u64.wrap (t276*11400714785074694791))+9650029242287828579))))))else(none))else(none))else(Qbc.l1 k x1 x6)
def Qbc.l1:Nat→ByteArray→Int→Option (Int)
 | 0,_,_=>none
 | k+1,x1,x6=>if(x1.size:Int)≥4 then(if 0≤4 then(if 4≤(x1.size:Int)then((Qav.f k (x1.extract 0 4)).bind fun t277=>((Qbg.f k (Go.bits .xor .u64 x6 (IntKind.u64.wrap (t277*11400714785074694791))) 23).bind fun t278=>(Qbc.l1 k (x1.extract 4 x1.size) (IntKind.u64.wrap ((IntKind.u64.wrap (t278*14029467366897019727))+1609587929392839161)))))else(none))else(none))else(Qbc.l2 k x1 x6 0)
def Qbc.l2:Nat→ByteArray→Int→Int→Option (Int)
 | 0,_,_,_=>none
 | k+1,x1,x6,x8=>if x8<(x1.size:Int)then(if 0≤x8 then((Qbg.f k (Go.bits .xor .u64 x6 (IntKind.u64.wrap ((IntKind.u64.wrap (bt x1 x8))*2870177450012600261))) 11).bind fun t279=>(Qbc.l2 k x1 (IntKind.u64.wrap (t279*11400714785074694791)) (wrap64 (x8+1))))else(none))else((Qbf.f k x6 33).bind fun t280=>((Qbf.f k (IntKind.u64.wrap (t280*14029467366897019727)) 29).bind fun t281=>((Qbf.f k (IntKind.u64.wrap (t281*1609587929392839161)) 32).bind fun t282=>(some t282))))
end
def Qbc.f(k:Nat)(a0:Int)(a1:ByteArray):Option (Int):=if(a1.size:Int)≥32 then((Qbd.f a0 a1).bind fun bt272=>(Qbc.j0 k bt272.2 (IntKind.u64.wrap ((a1.size:Int))) bt272.1))else(Qbc.j0 k a1 (IntKind.u64.wrap ((a1.size:Int))) (IntKind.u64.wrap (a0+2870177450012600261)))
theorem Qbc.calls (k:Nat) (a0:Int) (a1:ByteArray) (r:Int) (w:World) (h:Qbc.f k a0 a1=some r) :
  Calls Tryz.prog 65 #[.int .u64 a0,.string a1] w fun e w'=>e=.returned (.int .u64 r)∧Below w.heap.size w w':=by
 have HB:=QA (Below.refl w.heap.size w);have H:(if(a1.size:Int)≥32 then((Qbd.f a0 a1).bind fun bt272=>(Qbc.j0 k bt272.2 (IntKind.u64.wrap ((a1.size:Int))) bt272.1))else(Qbc.j0 k a1 (IntKind.u64.wrap ((a1.size:Int))) (IntKind.u64.wrap (a0+2870177450012600261))))=some r:=h;clear h;have J:=QA H;clear H
 go_enter Tryz.func65,Tryz.ntmps65
 go_upto_if 17 with(fail)
 go_cut [1,6] (fun v1 v6 wc=>∃(kq:Nat) (a:ByteArray) (c:Int),v1=.string a∧v6=.int .u64 c∧Aside0 (Qbc.j0 kq a (IntKind.u64.wrap ((a1.size:Int))) c=some r)∧Aside0 (kq≤k)∧Aside0 (Below w.heap.size w wc))
 case first =>
  have H:=J.out;clear J
  by_cases c4:(a1.size:Int)≥32
  ·rw[if_pos c4]at H;have g:decide (32≤(a1.size:Int))=true:=decide_eq_true c4;have m:decide (32≤a1.size)=true:=decide_eq_true (by omega);clear c4
   (first|rw[g] |(simp only[Qhx,Qhy];rw[g])|skip)
   replace H:=Option.bind_eq_some_iff.mp H;obtain⟨⟨s,t⟩,al,H⟩:=H;replace H:(Qbc.j0 k t (IntKind.u64.wrap ((a1.size:Int))) s)=some r:=H;have A5:=QA al;clear al;have H':=QA H;clear H
   go_wp2_with (first |((with_reducible refine Qju (f:=105) rfl ?_);refine Qhu (some 21) rfl rfl Tryz.func105 qq_6 rfl #[.int .u64 a0,.string a1] rfl qq_1 ?_;(with_reducible refine(Qbd.calls a0 a1 s t _ A5.out).mono ?_);rintro e w6 ⟨rfl,hb⟩;refine⟨_,rfl,?_⟩;have n_:=qn1 (Qgk qq_b hb);clear HB;have HB:=n_;clear n_;(try clear hb);(try clear hb2);(try clear hk);(try clear hi)))
   go_meet
   case rel=>exact⟨_,(t),(s),qq_8,qq_8,H',⟨by first|omega|exact Nat.le_refl _⟩,⟨qq_b⟩⟩
  ·rw[if_neg c4]at H;have g:decide (32≤(a1.size:Int))=false:=decide_eq_false c4;have m:decide (32≤a1.size)=false:=decide_eq_false (by omega);clear c4
   (first|rw[g] |(simp only[Qhx,Qhy];rw[g])|skip)
   have H':=QA H;clear H;go_wp2
   go_meet
   case rel=>exact⟨_,(a1),(IntKind.u64.wrap (a0+2870177450012600261)),qq_8,qq_8,H',⟨by first|omega|exact Nat.le_refl _⟩,⟨qq_b⟩⟩
 case rest =>
  clear J
  try clear c4
  try clear g
  try clear m
  obtain⟨kq,a,c,rfl,rfl,HA,HJ2,HB⟩:=hcut
  cases kq with
  | zero=>exact absurd HA.out (by simp[Qbc.j0])
  | succ kj2 =>
   have H:=HA.out;clear HA;simp only[Qbc.j0]at H;have H':=QA H;clear H;go_wp2
   go_loopg [1,6] kj2 (fun kq v1 v6 w'=>∃(a:ByteArray) (c:Int),v1=.string a∧v6=.int .u64 c∧Aside0 (Qbc.l0 kq a c=some r)∧Aside0 (kq≤kj2)∧Aside0 (Below w.heap.size w w'))
   case atStart=>exact⟨(a),(IntKind.u64.wrap (c+(IntKind.u64.wrap ((a1.size:Int))))),qq_8,qq_8,H',⟨Nat.le_refl _⟩,⟨qq_b⟩⟩
   case round =>
    clear H'
    try clear c4
    try clear g
    try clear m
    obtain⟨a,c,rfl,rfl,HA,HK2,HB⟩:=hrel
    cases gk with
    | zero=>exact absurd HA.out (by simp[Qbc.l0])
    | succ k2 =>
     have H:=HA.out;clear HA;simp only[Qbc.l0]at H
     by_cases c7:(a.size:Int)≥8
     ·rw[if_pos c7]at H;have u:decide (8≤(a.size:Int))=true:=decide_eq_true c7;have v:decide (8≤a.size)=true:=decide_eq_true (by omega);clear c7
      by_cases c8:0≤8
      ·rw[if_pos c8]at H;have K:=eq_true c8;have L:=decide_eq_true c8;clear c8
       by_cases c9:8≤(a.size:Int)
       ·rw[if_pos c9]at H;have M:=eq_true c9;have O:=decide_eq_true c9;clear c9;replace H:=Option.bind_eq_some_iff.mp H;obtain⟨x,P,H⟩:=H;have ap:=QA P;clear P;replace H:=Option.bind_eq_some_iff.mp H;obtain⟨y,T,H⟩:=H;have aq:=QA T;clear T;replace H:=Option.bind_eq_some_iff.mp H;obtain⟨U,W,H⟩:=H;have ar:=QA W;clear W;have D:=eq_true (of_decide_eq_true qq_5:8≤(a.size:Int));have H':=QA H;clear H
        go_wp2_with (first |((with_reducible refine Qju (f:=107) rfl ?_);refine Qhu (some 33) rfl rfl Tryz.func107 qq_6 rfl #[.string (a.extract 0 8)] rfl qq_1 ?_;(with_reducible refine(Qav.calls k2 (a.extract 0 8) x _ ap.out).mono ?_);rintro e w' ⟨rfl,⟨nd,rfl⟩⟩;refine⟨_,rfl,?_⟩) |((with_reducible refine Qju (f:=106) rfl ?_);refine Qhu (some 34) rfl rfl Tryz.func106 qq_6 rfl #[.int .u64 0,.int .u64 x] rfl qq_1 ?_;(with_reducible refine(Qbe.calls k2 0 x y _ aq.out).mono ?_);rintro e w' ⟨rfl,⟨nd,rfl⟩⟩;refine⟨_,rfl,?_⟩) |((with_reducible refine Qju (f:=108) rfl ?_);refine Qhu (some 37) rfl rfl Tryz.func108 qq_6 rfl #[.int .u64 (Go.bits .xor .u64 c y),.int .i64 27] rfl qq_1 ?_;(with_reducible refine(Qbg.calls k2 (Go.bits .xor .u64 c y) 27 U _ ar.out).mono ?_);rintro e w' ⟨rfl,⟨nd,rfl⟩⟩;refine⟨_,rfl,?_⟩))
        go_roundg k2
        case measure=>have:=HJ2.out;have:=HK2.out;omega
        case rel=>exact⟨(a.extract 8 a.size),(IntKind.u64.wrap ((IntKind.u64.wrap (U*11400714785074694791))+9650029242287828579)),qq_8,qq_8,H',⟨by have:=HJ2.out;have:=HK2.out;omega⟩,⟨qq_b⟩⟩
       ·rw[if_neg c9]at H;exact absurd H (by simp)
      ·rw[if_neg c8]at H;exact absurd H (by simp)
     ·rw [if_neg c7]at H;have u:decide (8≤(a.size:Int))=false:=decide_eq_false c7;have v:decide (8≤a.size)=false:=decide_eq_false (by omega);clear c7;have H':=QA H;clear H;go_wp2
      go_loopg [1,6] k2 (fun kq v1 v6 w'=>∃(b:ByteArray) (l:Int),v1=.string b∧v6=.int .u64 l∧Aside0 (Qbc.l1 kq b l=some r)∧Aside0 (kq≤k2)∧Aside0 (Below w.heap.size w w'))
      case atStart=>exact⟨(a),(c),qq_8,qq_8,H',⟨Nat.le_refl _⟩,⟨qq_b⟩⟩
      case round =>
       clear H'
       try clear c4
       try clear g
       try clear m
       try clear c7
       try clear u
       try clear v
       try clear c8
       try clear K
       try clear L
       try clear c9
       try clear M
       try clear O
       try clear D
       obtain⟨b,l,rfl,rfl,HA,HK3,HB⟩:=hrel
       cases gk with
       | zero=>exact absurd HA.out (by simp[Qbc.l1])
       | succ k3 =>
        have H:=HA.out;clear HA;simp only[Qbc.l1]at H
        by_cases n:(b.size:Int)≥4
        ·rw[if_pos n]at H;have E:decide (4≤(b.size:Int))=true:=decide_eq_true n;have G:decide (4≤b.size)=true:=decide_eq_true (by omega);clear n
         by_cases o:0≤4
         ·rw[if_pos o]at H;have af:=eq_true o;have ag:=decide_eq_true o;clear o
          by_cases p:4≤(b.size:Int)
          ·rw[if_pos p]at H;have ah:=eq_true p;have ai:=decide_eq_true p;clear p;replace H:=Option.bind_eq_some_iff.mp H;obtain⟨z,X,H⟩:=H;have au:=QA X;clear X;replace H:=Option.bind_eq_some_iff.mp H;obtain⟨Y,Z,H⟩:=H;have av:=QA Z;clear Z;have aj:=eq_true (of_decide_eq_true qq_5:4≤(b.size:Int));have H':=QA H;clear H
           go_wp2_with (first |((with_reducible refine Qju (f:=107) rfl ?_);refine Qhu (some 47) rfl rfl Tryz.func107 qq_6 rfl #[.string (b.extract 0 4)] rfl qq_1 ?_;(with_reducible refine(Qav.calls k3 (b.extract 0 4) z _ au.out).mono ?_);rintro e w' ⟨rfl,⟨nd,rfl⟩⟩;refine⟨_,rfl,?_⟩) |((with_reducible refine Qju (f:=108) rfl ?_);refine Qhu (some 52) rfl rfl Tryz.func108 qq_6 rfl #[.int .u64 (Go.bits .xor .u64 l (IntKind.u64.wrap (z*11400714785074694791))),.int .i64 23] rfl qq_1 ?_;(with_reducible refine(Qbg.calls k3 (Go.bits .xor .u64 l (IntKind.u64.wrap (z*11400714785074694791))) 23 Y _ av.out).mono ?_);rintro e w' ⟨rfl,⟨nd,rfl⟩⟩;refine⟨_,rfl,?_⟩))
           go_roundg k3
           case measure=>have:=HJ2.out;have:=HK2.out;have:=HK3.out;omega
           case rel=>exact⟨(b.extract 4 b.size),(IntKind.u64.wrap ((IntKind.u64.wrap (Y*14029467366897019727))+1609587929392839161)),qq_8,qq_8,H',⟨by have:=HJ2.out;have:=HK2.out;have:=HK3.out;omega⟩,⟨qq_b⟩⟩
          ·rw[if_neg p]at H;exact absurd H (by simp)
         ·rw[if_neg o]at H;exact absurd H (by simp)
        ·rw [if_neg n]at H;have E:decide (4≤(b.size:Int))=false:=decide_eq_false n;have G:decide (4≤b.size)=false:=decide_eq_false (by omega);clear n;have H':=QA H;clear H;go_wp2
         go_loopg [6,8] k3 (fun kq v6 v8 w'=>∃(j:Int) (d:Int),v6=.int .u64 j∧v8=.int .i64 d∧Aside0 (Qbc.l2 kq b j d=some r)∧Aside0 (kq≤k3)∧Aside0 (Below w.heap.size w w'))
         case atStart=>exact⟨(l),(0),qq_8,qq_8,H',⟨Nat.le_refl _⟩,⟨qq_b⟩⟩
         case round =>
          clear H'
          try clear c4
          try clear g
          try clear m
          try clear c7
          try clear u
          try clear v
          try clear c8
          try clear K
          try clear L
          try clear c9
          try clear M
          try clear O
          try clear D
          try clear n
          try clear E
          try clear G
          try clear o
          try clear af
          try clear ag
          try clear p
          try clear ah
          try clear ai
          try clear aj
          obtain⟨j,d,rfl,rfl,HA,HK4,HB⟩:=hrel
          cases gk with
          | zero=>exact absurd HA.out (by simp[Qbc.l2])
          | succ k4 =>
           have H:=HA.out;clear HA;simp only[Qbc.l2]at H
           by_cases q:d<(b.size:Int)
           ·rw[if_pos q]at H;have ak:=decide_eq_true q;clear q
            by_cases I:0≤d
            ·rw[if_pos I]at H;have aA:=decide_eq_true I;clear I;replace H:=Option.bind_eq_some_iff.mp H;obtain⟨aa,ab,H⟩:=H;have aw:=QA ab;clear ab;have H':=QA H;clear H;have am:0≤(d:Int):=of_decide_eq_true qq_5;have an:d<(b.size:Int):=of_decide_eq_true qq_5;have aB:=Qdq b d;replace am:=eq_true am;replace an:=eq_true an
             go_wp2_with (first |((with_reducible refine Qju (f:=108) rfl ?_);refine Qhu (some 71) rfl rfl Tryz.func108 qq_6 rfl #[.int .u64 (Go.bits .xor .u64 j (IntKind.u64.wrap ((IntKind.u64.wrap (bt b d))*2870177450012600261))),.int .i64 11] rfl qq_1 ?_;(with_reducible refine(Qbg.calls k4 (Go.bits .xor .u64 j (IntKind.u64.wrap ((IntKind.u64.wrap (bt b d))*2870177450012600261))) 11 aa _ aw.out).mono ?_);rintro e w' ⟨rfl,⟨nd,rfl⟩⟩;refine⟨_,rfl,?_⟩))
             go_roundg k4
             case measure=>have:=HJ2.out;have:=HK2.out;have:=HK3.out;have:=HK4.out;omega
             case rel=>exact⟨(IntKind.u64.wrap (aa*11400714785074694791)),(wrap64 (d+1)),qq_8,qq_8,H',⟨by have:=HJ2.out;have:=HK2.out;have:=HK3.out;have:=HK4.out;omega⟩,⟨qq_b⟩⟩
            ·rw[if_neg I]at H;exact absurd H (by simp)
           ·rw[if_neg q]at H;have ak:=decide_eq_false q;clear q;replace H:=Option.bind_eq_some_iff.mp H;obtain⟨A,ac,H⟩:=H;have ax:=QA ac;clear ac;replace H:=Option.bind_eq_some_iff.mp H;obtain⟨B,ad,H⟩:=H;have ay:=QA ad;clear ad;replace H:=Option.bind_eq_some_iff.mp H;obtain⟨ao,ae,H⟩:=H;have az:=QA ae;clear ae;obtain rfl:=Option.some.inj H
            go_wp2_with (first |((with_reducible refine Qju (f:=109) rfl ?_);refine Qhu (some 74) rfl rfl Tryz.func109 qq_6 rfl #[.int .u64 j,.int .i64 33] rfl qq_1 ?_;(with_reducible refine(Qbf.calls k4 j 33 A _ ax.out).mono ?_);rintro e w' ⟨rfl,⟨nd,rfl⟩⟩;refine⟨_,rfl,?_⟩) |((with_reducible refine Qju (f:=109) rfl ?_);refine Qhu (some 77) rfl rfl Tryz.func109 qq_6 rfl #[.int .u64 (IntKind.u64.wrap (A*14029467366897019727)),.int .i64 29] rfl qq_1 ?_;(with_reducible refine(Qbf.calls k4 (IntKind.u64.wrap (A*14029467366897019727)) 29 B _ ay.out).mono ?_);rintro e w' ⟨rfl,⟨nd,rfl⟩⟩;refine⟨_,rfl,?_⟩) |((with_reducible refine Qju (f:=109) rfl ?_);refine Qhu (some 80) rfl rfl Tryz.func109 qq_6 rfl #[.int .u64 (IntKind.u64.wrap (B*1609587929392839161)),.int .i64 32] rfl qq_1 ?_;(with_reducible refine(Qbf.calls k4 (IntKind.u64.wrap (B*1609587929392839161)) 32 ao _ az.out).mono ?_);rintro e w' ⟨rfl,⟨nd,rfl⟩⟩;refine⟨_,rfl,?_⟩))
            go_ret
            exact⟨qq_7,qq_b⟩
def Qdk.f(a0:Int)(l1:List Int)(a2:Int):Option (Bool):=(Qdl.f a0 l1).bind fun t717=>(some (t717 == a2))
theorem Qdk.calls(a0:Int)(A1:Option Addr)(c1:Nat)(l1:List Int)(a2:Int)(r:Bool)(w:World)(hr1:Kd.C (Kd.int .u8) w A1 l1.length l1)(hc1:l1.length≤c1)(h:Qdk.f a0 l1 a2=some r) :
  Calls Tryz.prog 194 #[.int .u32 a0,.slice A1 l1.length c1,.int .u32 a2] w fun e w'=>e=.returned (.bool r)∧Below w.heap.size w w':=by
 have HR1:=QA hr1;have HC1:=QA hc1;clear hr1 hc1;have HB:=QA (Below.refl w.heap.size w);have H:((Qdl.f a0 l1).bind fun t717=>(some (t717 == a2)))=some r:=h;clear h;replace H:=Option.bind_eq_some_iff.mp H;obtain⟨t717,A40,H⟩:=H;have A4:=QA A40;clear A40;obtain rfl:=Option.some.inj H
 go_enter Tryz.func194,Tryz.ntmps194
 go_wp2_with (first |((with_reducible refine Qju (f:=224) rfl ?_);refine Qhu (some 9) rfl rfl Tryz.func224 qq_6 rfl #[.int .u32 a0,.slice A1 l1.length c1] rfl qq_1 ?_;(with_reducible refine(Qdl.calls a0 _ _ l1 t717 _ ?side1 ?side2 A4.out).mono ?_);(case side1=>repeat(first|exact HR1.out |(with_reducible refine Kd.C_alloc ?_ _) |(with_reducible refine Kd.C_drewN ?_ _) |(with_reducible refine Kd.C_drew ?_)));(case side2=>exact HC1.out);rintro e w5 ⟨rfl,hb⟩;refine⟨_,rfl,?_⟩;have n0_:=QA (Qgk qq_b hb);clear HB;have HB:=n0_;clear n0_;(try clear hb);(try clear hb2);(try clear hk);(try clear hi)))
 go_ret
 exact⟨qq_7,qq_b⟩
def Qcq.f(a0_0:Bool)(a0_1:Int)(a0_2:ByteArray)(a0_3:ByteArray):Option (List Int × Int):=(Qdf.f a0_0 a0_1 a0_2 a0_3).bind fun bt118=>(if bt118.2=0 then((Qcr.f bt118.1).bind fun t122=>(some (t122,0)))else(some (([]:List Int),bt118.2)))
theorem Qcq.calls(b:Bool)(c:Int)(d:ByteArray)(j:ByteArray)(r1:List Int)(r2:Int)(w:World)(h:Qcq.f b c d j=some (r1,r2)) :
  Calls Tryz.prog 57 #[.agg #[.bool b,.int .u64 c,.string d,.string j]] w fun e w'=>∃u:Value,e=.returned (.tuple #[u,.int .i64 r2])∧Kd.R (Kd.int .u8) 5 w' w.heap.size (fun _=>True) u r1∧Below w.heap.size w w':=by
 have hu39:=Tryz.underlying39;have HB:=QA (Below.refl w.heap.size w);have H:((Qdf.f b c d j).bind fun bt118=>(if bt118.2=0 then((Qcr.f bt118.1).bind fun p=>(some (p,0)))else(some (([]:List Int),bt118.2))))=some (r1,r2):=h;clear h;replace H:=Option.bind_eq_some_iff.mp H;obtain⟨⟨q,l⟩,v,H⟩:=H;replace H:(if l=0 then((Qcr.f q).bind fun p=>(some (p,0)))else(some (([]:List Int),l)))=some (r1,r2):=H;have A2:=QA v;clear v
 by_cases c3:l=0
 ·rw[if_pos c3]at H;have y:(l == 0)=true:=beq_iff_eq.mpr c3;have z:(l != 0)=false:=bne_eq_false_iff_eq.mpr c3;clear c3;replace H:=Option.bind_eq_some_iff.mp H;obtain⟨p,x,H⟩:=H;have A4:=QA x;clear x;simp only[Option.some.injEq,Prod.mk.injEq]at H;obtain⟨rfl,rfl⟩:=H
  go_enter Tryz.func57,Tryz.ntmps57
  go_wp2_with (first |((with_reducible refine Qgv (N:=1) rfl ?_);refine qq_e 1 #[.bool b,.int .u64 c,.string d,.string j] 39 ?_;intro k hg w5 hbox hb;have n_:=qn4 (Qgk qq_b hb) (hbox) (qq_s hg:w.heap.size≤k) (qq_s hg:w.heap.size≤k);clear HB;obtain⟨HB,a,r,s⟩:=n_;clear hb hbox hg;obtain⟨I,J,K,L⟩:=qc4 a.out;have O:=Qeq a.out) |((with_reducible refine Qju (f:=99) rfl ?_);refine Qhu (some 8) rfl rfl Tryz.func99 qq_6 rfl #[.agg #[.bool b,.int .u64 c,.string d,.string j]] rfl qq_1 ?_;(with_reducible refine(Qdf.calls b c d j q l _ A2.out).mono ?_);rintro e w7 ⟨A,rfl,n,hb⟩;refine⟨_,rfl,?_⟩;have n_:=qn3 (Kd.R_lower n (Qgj qq_b)) (Qfe (g:=k) (o:=.cells #[.bool b,.int .u64 c,.string d,.string j] 39 (0,0)) qq_0 hb) (Qgk qq_b hb);clear a HB;obtain⟨m,a,HB⟩:=n_;(try clear hb);(try clear hb2);(try clear hk);(try clear hi);(try clear n);obtain⟨Ao8,co8,eo8⟩:=Kd.R_slice m.out;subst eo8) |((with_reducible refine Qju (f:=96) rfl ?_);refine Qhu (some 15) rfl rfl Tryz.func96 qq_6 rfl #[.slice Ao8 q.length co8] rfl qq_1 ?_;(with_reducible refine(Qcr.calls _ _ q p _ ?side1 ?side2 A4.out).mono ?_);(case side1=>repeat(first|exact(Kd.R_reads' m.out).2.2 |(with_reducible refine Kd.C_alloc ?_ _) |(with_reducible refine Kd.C_drewN ?_ _) |(with_reducible refine Kd.C_drew ?_)));(case side2=>exact(Kd.R_reads' m.out).2.1);rintro e w9 ⟨P,rfl,n,hb⟩;refine⟨_,rfl,?_⟩;have n_:=qn4 (Kd.R_elder' qq_2 (Kd.R_base n) hb) (Kd.R_lower (Kd.R_new' n (Kd.R_lt qq_2)) (Qgj qq_b)) (Qfe (g:=k) (o:=.cells #[.bool b,.int .u64 c,.string d,.string j] 39 (0,0)) qq_0 hb) (Qgk qq_b hb);clear m a HB;obtain⟨m,t,a,HB⟩:=n_;(try clear hb);(try clear hb2);(try clear hk);(try clear hi);(try clear n)))
  go_ret2
  exact⟨_,by first|rfl |(simp[Qkb,Qkc]<;>rfl) |(simp[*,Qkb,Qkc]<;>rfl),by(with_reducible repeat(first|apply Kd.R_alloc|apply Kd.R_drewN|apply Kd.R_drew));exact Kd.R_mono t.out (fun _ hk=>trivial),qq_b⟩
 ·rw[if_neg c3]at H;have y:(l == 0)=false:=beq_eq_false_iff_ne.mpr c3;have z:(l != 0)=true:=bne_iff_ne.mpr c3;simp only[Option.some.injEq,Prod.mk.injEq]at H;obtain⟨rfl,rfl⟩:=H
  go_enter Tryz.func57,Tryz.ntmps57
  go_wp2_with (first |((with_reducible refine Qgv (N:=1) rfl ?_);refine qq_e 1 #[.bool b,.int .u64 c,.string d,.string j] 39 ?_;intro k hg T hbox hb;have n_:=qn4 (Qgk qq_b hb) (hbox) (qq_s hg:w.heap.size≤k) (qq_s hg:w.heap.size≤k);clear HB;obtain⟨HB,a,r,s⟩:=n_;clear hb hbox hg;obtain⟨B,D,E,G⟩:=qc4 a.out;have M:=Qeq a.out) |((with_reducible refine Qju (f:=99) rfl ?_);refine Qhu (some 8) rfl rfl Tryz.func99 qq_6 rfl #[.agg #[.bool b,.int .u64 c,.string d,.string j]] rfl qq_1 ?_;(with_reducible refine(Qdf.calls b c d j q l _ A2.out).mono ?_);rintro e U ⟨A,rfl,n,hb⟩;refine⟨_,rfl,?_⟩;have n_:=qn3 (Kd.R_lower n (Qgj qq_b)) (Qfe (g:=k) (o:=.cells #[.bool b,.int .u64 c,.string d,.string j] 39 (0,0)) qq_0 hb) (Qgk qq_b hb);clear a HB;obtain⟨m,a,HB⟩:=n_;(try clear hb);(try clear hb2);(try clear hk);(try clear hi);(try clear n)))
  go_ret2
  exact⟨_,by first|rfl |(simp[Qkb,Qkc]<;>rfl) |(simp[*,Qkb,Qkc]<;>rfl),by first|exact Kd.R_nil _ _ _ _ _|exact Kd.N_nil _ _ _ _ _|exact Kd.V_nil _ _ _ _ _|exact Kd.Q_nil _ _ _ _ _|exact Kd.S_nil _ _ _ _ _,qq_b⟩
def Qcz.f(a0_0:Int)(a0_1:Int)(a1:Int):Option (Int × Int × Int × Int × Int × Int):=(Qcp.f a0_0 a0_1 a1).bind fun bt108=>(if bt108.2=0 then(some (a0_0,a0_1,a1,(bt108.1.length:Int),0,0))else(some (0,0,0,0,0,bt108.2)))
theorem Qcz.calls(b:Int)(c:Int)(a1:Int)(r1:Int)(r2:Int)(r3:Int)(r4:Int)(r5:Int)(r6:Int)(w:World)(h:Qcz.f b c a1=some (r1,r2,r3,r4,r5,r6)) :
  Calls Tryz.prog 52 #[.agg #[.int .u8 b,.int .u32 c],.int .u32 a1] w fun e w'=>e=.returned (.tuple #[.agg #[.int .u8 r1,.int .u32 r2,.int .u32 r3,.int .i64 r4,.int .i64 r5],.int .i64 r6])∧Below w.heap.size w w':=by
 have hu27:=Tryz.underlying27;have hu47:=Tryz.underlying47;have HB:=QA (Below.refl w.heap.size w);have H:((Qcp.f b c a1).bind fun bt108=>(if bt108.2=0 then(some (b,c,a1,(bt108.1.length:Int),0,0))else(some (0,0,0,0,0,bt108.2))))=some (r1,r2,r3,r4,r5,r6):=h;clear h;replace H:=Option.bind_eq_some_iff.mp H;obtain⟨⟨p,l⟩,x,H⟩:=H;replace H:(if l=0 then(some (b,c,a1,(p.length:Int),0,0))else(some (0,0,0,0,0,l)))=some (r1,r2,r3,r4,r5,r6):=H;have A3:=QA x;clear x
 by_cases c4:l=0
 ·rw[if_pos c4]at H;have y:(l == 0)=true:=beq_iff_eq.mpr c4;have z:(l != 0)=false:=bne_eq_false_iff_eq.mpr c4;clear c4;simp only[Option.some.injEq,Prod.mk.injEq]at H;obtain⟨rfl,rfl,rfl,rfl,rfl,rfl⟩:=H
  go_enter Tryz.func52,Tryz.ntmps52
  go_wp2_with (first |((with_reducible refine Qgv (N:=2) rfl ?_);refine qq_e 2 #[.int .u8 b,.int .u32 c] 27 ?_;intro a hg w5 hbox hb;have n_:=qn4 (Qgk qq_b hb) (hbox) (qq_s hg:w.heap.size≤a) (qq_s hg:w.heap.size≤a);clear HB;obtain⟨HB,d,s,t⟩:=n_;clear hb hbox hg) |((with_reducible refine Qgv (N:=4) rfl ?_);refine qq_e 4 #[.int .u8 0,.int .u32 0,.int .u32 0,.int .i64 0,.int .i64 0] 47 ?_;intro j hg w6 hbox hb;have n_:=qn7 (Qfe (g:=a) (o:=.cells #[.int .u8 b,.int .u32 c] 27 (0,0)) qq_0 hb) (Qgk qq_b hb) (hbox) (qq_s hg:w.heap.size≤j) (qq_s hg:w.heap.size≤j) ((by rw[hg];exact Nat.ne_of_lt (Qeo (g:=a) (o:=.cells #[.int .u8 b,.int .u32 c] 27 (0,0)) qq_0):a≠j)) ((by rw[hg];exact Nat.ne_of_gt (Qeo (g:=a) (o:=.cells #[.int .u8 b,.int .u32 c] 27 (0,0)) qq_0):j≠a));clear d HB;obtain⟨d,HB,k,u,v,m,n⟩:=n_;clear hb hbox hg;have af:=m.out;have ag:=n.out;obtain⟨X,Y⟩:=qc2 d.out;have ah:=Qeq d.out) |((with_reducible refine Qju (f:=53) rfl ?_);refine Qhu (some 11) rfl rfl Tryz.func53 qq_6 rfl #[.agg #[.int .u8 b,.int .u32 c],.int .u32 a1] rfl qq_1 ?_;(with_reducible refine(Qcp.calls b c a1 p l _ A3.out).mono ?_);rintro e w9 ⟨A,rfl,q,hb⟩;refine⟨_,rfl,?_⟩;have n_:=qn4 (Kd.R_lower q (Qgj qq_b)) (Qfe (g:=a) (o:=.cells #[.int .u8 b,.int .u32 c] 27 (0,0)) qq_0 hb) (Qfe (g:=j) (o:=.cells #[.int .u8 0,.int .u32 0,.int .u32 0,.int .i64 0,.int .i64 0] 47 (0,0)) qq_0 hb) (Qgk qq_b hb);clear d k HB;obtain⟨r,d,k,HB⟩:=n_;(try clear hb);(try clear hb2);(try clear hk);(try clear hi);(try clear q);obtain⟨B,D⟩:=qc2 d.out;have Z:=Qeq d.out;obtain⟨Ao11,co11,eo11⟩:=Kd.R_slice r.out;subst eo11;obtain⟨E,G,I,J,K⟩:=qc5 k.out;have aa:=Qeq k.out))
  refine bodyPost_ret (Qfg rfl _ _ j 47 #[.int .u8 b,.int .u32 c,.int .u32 a1,.int .i64 (p.length:Int),.int .i64 0] (0,0) _ rfl qq_x Tryz.underlying47 rfl qq_6) rfl ?_;exact⟨qq_7,qq_b⟩
 ·rw[if_neg c4]at H;have y:(l == 0)=false:=beq_eq_false_iff_ne.mpr c4;have z:(l != 0)=true:=bne_iff_ne.mpr c4;simp only[Option.some.injEq,Prod.mk.injEq]at H;obtain⟨rfl,rfl,rfl,rfl,rfl,rfl⟩:=H
  go_enter Tryz.func52,Tryz.ntmps52
  go_wp2_with (first |((with_reducible refine Qgv (N:=2) rfl ?_);refine qq_e 2 #[.int .u8 b,.int .u32 c] 27 ?_;intro a hg ai hbox hb;have n_:=qn4 (Qgk qq_b hb) (hbox) (qq_s hg:w.heap.size≤a) (qq_s hg:w.heap.size≤a);clear HB;obtain⟨HB,d,s,t⟩:=n_;clear hb hbox hg) |((with_reducible refine Qgv (N:=4) rfl ?_);refine qq_e 4 #[.int .u8 0,.int .u32 0,.int .u32 0,.int .i64 0,.int .i64 0] 47 ?_;intro j hg aj hbox hb;have n_:=qn7 (Qfe (g:=a) (o:=.cells #[.int .u8 b,.int .u32 c] 27 (0,0)) qq_0 hb) (Qgk qq_b hb) (hbox) (qq_s hg:w.heap.size≤j) (qq_s hg:w.heap.size≤j) ((by rw[hg];exact Nat.ne_of_lt (Qeo (g:=a) (o:=.cells #[.int .u8 b,.int .u32 c] 27 (0,0)) qq_0):a≠j)) ((by rw[hg];exact Nat.ne_of_gt (Qeo (g:=a) (o:=.cells #[.int .u8 b,.int .u32 c] 27 (0,0)) qq_0):j≠a));clear d HB;obtain⟨d,HB,k,u,v,m,n⟩:=n_;clear hb hbox hg;have ab:=m.out;have ac:=n.out;obtain⟨L,M⟩:=qc2 d.out;have ad:=Qeq d.out) |((with_reducible refine Qju (f:=53) rfl ?_);refine Qhu (some 11) rfl rfl Tryz.func53 qq_6 rfl #[.agg #[.int .u8 b,.int .u32 c],.int .u32 a1] rfl qq_1 ?_;(with_reducible refine(Qcp.calls b c a1 p l _ A3.out).mono ?_);rintro e ak ⟨A,rfl,q,hb⟩;refine⟨_,rfl,?_⟩;have n_:=qn4 (Kd.R_lower q (Qgj qq_b)) (Qfe (g:=a) (o:=.cells #[.int .u8 b,.int .u32 c] 27 (0,0)) qq_0 hb) (Qfe (g:=j) (o:=.cells #[.int .u8 0,.int .u32 0,.int .u32 0,.int .i64 0,.int .i64 0] 47 (0,0)) qq_0 hb) (Qgk qq_b hb);clear d k HB;obtain⟨r,d,k,HB⟩:=n_;(try clear hb);(try clear hb2);(try clear hk);(try clear hi);(try clear q);obtain⟨O,P,T,U,W⟩:=qc5 k.out;have ae:=Qeq k.out))
  refine bodyPost_ret (Qfg rfl _ _ j 47 #[.int .u8 0,.int .u32 0,.int .u32 0,.int .i64 0,.int .i64 0] (0,0) _ rfl qq_x Tryz.underlying47 rfl qq_6) rfl ?_;exact⟨qq_7,qq_b⟩
def Qde.f(a0_0:Int)(a0_1:Int)(a1:Int):Option (Bool):=(Qcz.f a0_0 a0_1 ((a0_1-1)%4294967296)).bind fun bt134=>(if bt134.2.2.2.2.2=0 then((Qdb.f bt134.1 bt134.2.1 bt134.2.2.1 bt134.2.2.2.1 bt134.2.2.2.2.1 a1).bind fun t141=>(some (!t141)))else(some true))
theorem Qde.calls(d:Int)(a:Int)(a1:Int)(r:Bool)(w:World)(h:Qde.f d a a1=some r) :
  Calls Tryz.prog 58 #[.agg #[.int .u8 d,.int .u32 a],.int .i64 a1] w fun e w'=>e=.returned (.bool r)∧Below w.heap.size w w':=by
 have hu27:=Tryz.underlying27;have hu47:=Tryz.underlying47;have HB:=QA (Below.refl w.heap.size w);have H:((Qcz.f d a ((a-1)%4294967296)).bind fun bt134=>(if bt134.2.2.2.2.2=0 then((Qdb.f bt134.1 bt134.2.1 bt134.2.2.1 bt134.2.2.2.1 bt134.2.2.2.2.1 a1).bind fun p=>(some (!p)))else(some true)))=some r:=h;clear h;replace H:=Option.bind_eq_some_iff.mp H;obtain⟨⟨q,s,t,u,v,l⟩,B,H⟩:=H;replace H:(if l=0 then((Qdb.f q s t u v a1).bind fun p=>(some (!p)))else(some true))=some r:=H;have A3:=QA B;clear B
 by_cases c4:l=0
 ·rw[if_pos c4]at H;have E:(l == 0)=true:=beq_iff_eq.mpr c4;have G:(l != 0)=false:=bne_eq_false_iff_eq.mpr c4;clear c4;replace H:=Option.bind_eq_some_iff.mp H;obtain⟨p,D,H⟩:=H;have A5:=QA D;clear D;obtain rfl:=Option.some.inj H
  go_enter Tryz.func58,Tryz.ntmps58
  go_wp2_with (first |((with_reducible refine Qgv (N:=2) rfl ?_);refine qq_e 2 #[.int .u8 d,.int .u32 a] 27 ?_;intro b hg w6 hbox hb;have n_:=qn4 (Qgk qq_b hb) (hbox) (qq_s hg:w.heap.size≤b) (qq_s hg:w.heap.size≤b);clear HB;obtain⟨HB,c,x,y⟩:=n_;clear hb hbox hg;obtain⟨Z,aa⟩:=qc2 c.out;have ai:=Qeq c.out) |((with_reducible refine Qju (f:=52) rfl ?_);refine Qhu (some 12) rfl rfl Tryz.func52 qq_6 rfl #[.agg #[.int .u8 d,.int .u32 a],.int .u32 ((a-1)%4294967296)] rfl qq_1 ?_;(with_reducible refine(Qcz.calls d a ((a-1)%4294967296) q s t u v l _ A3.out).mono ?_);rintro e w8 ⟨rfl,hb⟩;refine⟨_,rfl,?_⟩;have n_:=qn2 (Qfe (g:=b) (o:=.cells #[.int .u8 d,.int .u32 a] 27 (0,0)) qq_0 hb) (Qgk qq_b hb);clear c HB;obtain⟨c,HB⟩:=n_;(try clear hb);(try clear hb2);(try clear hk);(try clear hi)) |((with_reducible refine Qgv (N:=5) rfl ?_);refine qq_e 5 #[.int .u8 0,.int .u32 0,.int .u32 0,.int .i64 0,.int .i64 0] 47 ?_;intro j hg w9 hbox hb;have n_:=qn7 (Qfe (g:=b) (o:=.cells #[.int .u8 d,.int .u32 a] 27 (0,0)) qq_0 hb) (Qgk qq_b hb) (hbox) (qq_s hg:w.heap.size≤j) (qq_s hg:w.heap.size≤j) ((by rw[hg];exact Nat.ne_of_lt (Qeo (g:=b) (o:=.cells #[.int .u8 d,.int .u32 a] 27 (0,0)) qq_0):b≠j)) ((by rw[hg];exact Nat.ne_of_gt (Qeo (g:=b) (o:=.cells #[.int .u8 d,.int .u32 a] 27 (0,0)) qq_0):j≠b));clear c HB;obtain⟨c,HB,k,z,A,m,n⟩:=n_;clear hb hbox hg;have ab:=n.out;have ac:=m.out;obtain⟨I,J,K,L,M⟩:=qc5 k.out;have ad:=Qeq k.out) |(go_at_call 100;(with_reducible refine(Qdb.calls q s t u v a1 p _ A5.out).mono ?_);rintro e aj ⟨rfl,hb⟩;have n_:=qn3 (Qfe (g:=b) (o:=.cells #[.int .u8 d,.int .u32 a] 27 (0,0)) qq_9 hb) (Qfe (g:=j) (o:=.cells #[.int .u8 q,.int .u32 s,.int .u32 t,.int .i64 u,.int .i64 v] 47 (0,0)) qq_x hb) (Qgk qq_b hb);clear c k HB;obtain⟨c,k,HB⟩:=n_;(try clear hb);(try clear hb2);(try clear hk);(try clear hi)))
  go_ret
  exact⟨qq_7,qq_b⟩
 ·rw[if_neg c4]at H;have E:(l == 0)=false:=beq_eq_false_iff_ne.mpr c4;have G:(l != 0)=true:=bne_iff_ne.mpr c4;obtain rfl:=Option.some.inj H
  go_enter Tryz.func58,Tryz.ntmps58
  go_wp2_with (first |((with_reducible refine Qgv (N:=2) rfl ?_);refine qq_e 2 #[.int .u8 d,.int .u32 a] 27 ?_;intro b hg ak hbox hb;have n_:=qn4 (Qgk qq_b hb) (hbox) (qq_s hg:w.heap.size≤b) (qq_s hg:w.heap.size≤b);clear HB;obtain⟨HB,c,x,y⟩:=n_;clear hb hbox hg;obtain⟨O,P⟩:=qc2 c.out;have ae:=Qeq c.out) |((with_reducible refine Qju (f:=52) rfl ?_);refine Qhu (some 12) rfl rfl Tryz.func52 qq_6 rfl #[.agg #[.int .u8 d,.int .u32 a],.int .u32 ((a-1)%4294967296)] rfl qq_1 ?_;(with_reducible refine(Qcz.calls d a ((a-1)%4294967296) q s t u v l _ A3.out).mono ?_);rintro e al ⟨rfl,hb⟩;refine⟨_,rfl,?_⟩;have n_:=qn2 (Qfe (g:=b) (o:=.cells #[.int .u8 d,.int .u32 a] 27 (0,0)) qq_0 hb) (Qgk qq_b hb);clear c HB;obtain⟨c,HB⟩:=n_;(try clear hb);(try clear hb2);(try clear hk);(try clear hi)) |((with_reducible refine Qgv (N:=5) rfl ?_);refine qq_e 5 #[.int .u8 0,.int .u32 0,.int .u32 0,.int .i64 0,.int .i64 0] 47 ?_;intro j hg am hbox hb;have n_:=qn7 (Qfe (g:=b) (o:=.cells #[.int .u8 d,.int .u32 a] 27 (0,0)) qq_0 hb) (Qgk qq_b hb) (hbox) (qq_s hg:w.heap.size≤j) (qq_s hg:w.heap.size≤j) ((by rw[hg];exact Nat.ne_of_lt (Qeo (g:=b) (o:=.cells #[.int .u8 d,.int .u32 a] 27 (0,0)) qq_0):b≠j)) ((by rw[hg];exact Nat.ne_of_gt (Qeo (g:=b) (o:=.cells #[.int .u8 d,.int .u32 a] 27 (0,0)) qq_0):j≠b));clear c HB;obtain⟨c,HB,k,z,A,m,n⟩:=n_;clear hb hbox hg;have af:=n.out;have ag:=m.out;obtain⟨T,U,W,X,Y⟩:=qc5 k.out;have ah:=Qeq k.out))
  go_ret
  exact⟨qq_7,qq_b⟩
end Go.Proofs.YtnnofopfbeklbaaGreat.C
end
