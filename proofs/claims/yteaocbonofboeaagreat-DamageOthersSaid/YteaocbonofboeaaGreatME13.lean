/- Merged texts. -/
import Derived.Test.YteaocbonofboeaaGreatME02
import Derived.Test.YteaocbonofboeaaGreatME03
import Derived.Test.YteaocbonofboeaaGreatME07
import Derived.Test.YteaocbonofboeaaGreatME12
import Derived.Test.YteaocbonofboeaaGreatME08
import Derived.OpenShut
set_option linter.unusedVariables false
set_option linter.unusedSimpArgs false
set_option maxHeartbeats 8000000
set_option maxRecDepth 100000
section
namespace Go.Proofs.YteaocbonofboeaaGreat.C
open Go.RowKit Go.Proofs.YteaocbonofboeaaGreatW.PrintWords Go.Proofs.YteaocbonofboeaaGreatW.PrintLast Go.Proofs.YteaocbonofboeaaGreatW.PrintMore
def chk(d:Bool)(key v:ByteArray):Int:=if key.toList=([]:List UInt8)then 4 else if(key.size:Int) > 4096 then 3 else if(d && (v.toList != ([]:List UInt8)))=true then 4 else if(v.size:Int) > 1048576 then 3 else 0
theorem Qlk(d:Bool)(s:Int)(key v:ByteArray):Qci.f 1 d s key v=some (chk d key v):=by
 unfold Qci.f chk;split
 ·rfl
 split
 ·rfl
 cases d
 ·simp only[Bool.false_eq_true,if_false,Bool.false_and,Qci.j0];split<;>rfl
 ·simp only[if_true,Bool.true_and,Qci.j0];split
  ·rfl
  ·split<;>rfl
theorem Qll{d:Bool}{key v:ByteArray}(h:chk d key v=0):key.size≤4096∧v.size≤1048576:=by
 unfold chk at h
 repeat' split at h
 all_goals first|omega|skip
def Qlm(d:Bool)(s:Int)(key v:ByteArray):List Int:=[if d then 3 else 2]++vput 9 s++(vput 9 key.size++bytesOf key)++(if d then []else vput 9 v.size++bytesOf v)
def Qch.f(a0_0:Bool)(a0_1:Int)(a0_2:ByteArray)(a0_3:ByteArray):Option (List Int × Int) :=
 if 0≤a0_1 then if a0_1<18446744073709551616 then some (if chk a0_0 a0_2 a0_3=0 then(Qlm a0_0 a0_1 a0_2 a0_3,0)else([],chk a0_0 a0_2 a0_3))else none else none
theorem IsBuf.new(w:World)(b:Nat):IsBuf (w.alloc (.cells #[.slice none 0 0] 184)) b w.heap.size []:=⟨_,Qeh w _,Kd.R_nil _ _ _ _ _⟩
theorem box4{W:World}{B:Nat}{d:Bool}{s:Int}{key v:ByteArray}(h:W.heap[B]? = some (.cells #[.bool d,.int .u64 s,.string key,.string v] 37 (0,0))) :
  W.cell? ⟨B,0,none⟩=some (.bool d)∧W.cell? ⟨B,1,none⟩=some (.int .u64 s)∧W.cell? ⟨B,2,none⟩=some (.string key)∧W.cell? ⟨B,3,none⟩=some (.string v) :=
 ⟨(Qdr h 0).trans rfl,(Qdr h 1).trans rfl,(Qdr h 2).trans rfl,(Qdr h 3).trans rfl⟩
theorem body_of(d:Bool)(s:Int)(key v:ByteArray)(w:World)(hs0:0≤s)(hs1:s<18446744073709551616)(hc:chk d key v=0) :
  Calls Tryz.prog 105 #[.agg #[.bool d,.int .u64 s,.string key,.string v]] w fun e w'=>∃a:Value,e=.returned (.tuple #[a,.int .i64 0])∧R8 w' w.heap.size a (Qlm d s key v)∧Below w.heap.size w w':=by
 have hu:=Tryz.underlying37;obtain⟨hk,hv⟩:=Qll hc;have hl1:=Qla 9 s;have hl2:=Qla 9 key.size;have hl3:=Qla 9 v.size;have hkl:=Qde key;have hvl:=Qde v;have hcheck:=Qlk d s key v;rw[hc]at hcheck;have HC:=QA hcheck;clear hcheck hc;have hba:Below w.heap.size w (w.alloc (.cells #[.bool d,.int .u64 s,.string key,.string v] 37)):=Qcs (Below.refl _ _) _;have hbn:=Qeh w (.cells #[.bool d,.int .u64 s,.string key,.string v] 37)
 cases d
 all_goals
  go_enter Tryz.func105,Tryz.ntmps105
  go_wp2_with (first
   |(go_at_call 58;refine(Qci.calls 1 _ s key v 0 _ HC.out).mono ?_;rintro e w1 ⟨rfl,hb1⟩;have hk1:=Qeg hbn hb1;obtain⟨c0,c1,c2,c3⟩:=box4 hk1;have hw1:=QA (Qcv hba hba.size hb1);have hs1':=QA (show w.heap.size<w1.heap.size from Qdq hk1);have HI1:=QA (IsBuf.new w1 w.heap.size);have hk1':=Qed hk1 (.cells #[.slice none 0 0] 184);obtain⟨b,c,g,h⟩:=box4 hk1';clear hk1 hb1 hbn hba)
   |(go_at_call 101;refine(Qjy w.heap.size w1.heap.size _ [] _ (by decide) (by decide) (Nat.le_of_lt hs1'.out) (by rw[World.size_alloc];have:=hs1'.out;omega) HI1.out (by simp)).mono ?_;rintro e w2 ⟨rfl,hI2,hb2⟩;have hk2:=hb2.2 _ _ _ hk1' (by decide) (Nat.ne_of_lt hs1'.out);obtain⟨d0,d1,d2,d3⟩:=box4 hk2;have HI2:=QA hI2;have hs2:=QA hb2.size;clear hI2 c0 c1 c2 c3 b c g h)
   |(go_at_call 102;refine(Qlb w.heap.size w1.heap.size s _ _ hs0 hs1 (Nat.le_of_lt hs1'.out) (by have:=hs1'.out;have:=hs2.out;simp at this;omega) HI2.out (by simp)).mono ?_;rintro e w3 ⟨⟨_,rfl⟩,hI3,hb3⟩;have hk3:=hb3.2 _ _ _ hk2 (by decide) (Nat.ne_of_lt hs1'.out);obtain⟨e0,e1,e2,e3⟩:=box4 hk3;have HI3:=QA hI3;have hs3:=QA (Nat.le_trans hs2.out hb3.size);clear hI3 d0 d1 d2 d3)
   |(go_at_call_of 152 key;refine(Qld w.heap.size w1.heap.size key _ _ (by omega) (Nat.le_of_lt hs1'.out) (by have:=hs1'.out;have:=hs3.out;simp at this;omega) HI3.out qq_30).mono ?_;rintro e w4 ⟨⟨_,rfl⟩,hI4,hb4⟩;have hk4:=hb4.2 _ _ _ hk3 (by decide) (Nat.ne_of_lt hs1'.out);obtain⟨f0,f1,f2,f3⟩:=box4 hk4;have HI4:=QA hI4;have hs4:=QA (Nat.le_trans hs3.out hb4.size);clear hI4 e0 e1 e2 e3)
   |(go_at_call_of 152 v;refine(Qld w.heap.size w1.heap.size v _ _ (by omega) (Nat.le_of_lt hs1'.out) (by have:=hs1'.out;have:=hs4.out;simp at this;omega) HI4.out qq_30).mono ?_;rintro e w5 ⟨⟨_,rfl⟩,hI5,hb5⟩;have HI5:=QA hI5;have hs5:=QA (Nat.le_trans hs4.out hb5.size))
   |(go_at_call 104;first |(refine(Qkf w.heap.size w1.heap.size _ _ HI5.out qq_30).mono ?_;rintro e w6 ⟨vv,rfl,hR6,hb6⟩) |(refine(Qkf w.heap.size w1.heap.size _ _ HI4.out qq_30).mono ?_;rintro e w6 ⟨vv,rfl,hR6,hb6⟩)))
 ·refine bodyPost_ret (results_tmp2 rfl _ _ _) rfl ?_;have hsz:=hs5.out;simp at hsz;have:=hs1'.out;refine⟨vv,rfl,?_,(((((hw1.out.trans (Qju (Qcs (Below.refl _ _) _) (Nat.le_of_lt hs1'.out))).trans hb2.1).trans hb3.1).trans hb4.1).trans hb5.1).trans (Qju hb6 (by omega))⟩;have e:Qlm false s key v=[]++[2]++vput 9 s++(vput 9 key.size++bytesOf key)++(vput 9 v.size++bytesOf v):=by simp[Qlm]
  rw[e];exact hR6.low (by omega)
 ·refine bodyPost_ret (results_tmp2 rfl _ _ _) rfl ?_;have hsz:=hs4.out;simp at hsz;have:=hs1'.out;refine⟨vv,rfl,?_,((((hw1.out.trans (Qju (Qcs (Below.refl _ _) _) (Nat.le_of_lt hs1'.out))).trans hb2.1).trans hb3.1).trans hb4.1).trans (Qju hb6 (by omega))⟩;have e:Qlm true s key v=[]++[3]++vput 9 s++(vput 9 key.size++bytesOf key):=by simp[Qlm]
  rw[e];exact hR6.low (by omega)
theorem Qln(d:Bool)(s:Int)(key v:ByteArray)(w:World)(c:Int)(hc:chk d key v=c)(hn:c≠0) :
  Calls Tryz.prog 105 #[.agg #[.bool d,.int .u64 s,.string key,.string v]] w fun e w'=>∃v0_:Value,e=.returned (.tuple #[v0_,.int .i64 c])∧R8 w' w.heap.size v0_ []∧Below w.heap.size w w':=by
 have hu:=Tryz.underlying37;have hcheck:=Qlk d s key v;rw[hc]at hcheck;have HC:=QA hcheck;have hn1:(c == 0)=false:=by simpa using hn
 have hn2:(c != 0)=true:=by simpa using hn
 clear hcheck hc;have hba:Below w.heap.size w (w.alloc (.cells #[.bool d,.int .u64 s,.string key,.string v] 37)):=Qcs (Below.refl _ _) _
 go_enter Tryz.func105,Tryz.ntmps105
 go_wp2_with (go_at_call 58;refine(Qci.calls 1 _ s key v c _ HC.out).mono ?_;rintro e w1 ⟨rfl,hb1⟩)
 refine bodyPost_ret (results_tmp2 rfl _ _ _) rfl ?_;exact⟨_,rfl,Kd.R_nil _ _ _ _ _,Qcv hba hba.size hb1⟩
theorem Qch.calls(a0_0:Bool)(a0_1:Int)(a0_2:ByteArray)(a0_3:ByteArray)(r1:List Int)(r2:Int)(w:World)(h:Qch.f a0_0 a0_1 a0_2 a0_3=some (r1,r2)) :
  Calls Tryz.prog 105 #[.agg #[.bool a0_0,.int .u64 a0_1,.string a0_2,.string a0_3]] w fun e w'=>∃v0_:Value,e=.returned (.tuple #[v0_,.int .i64 r2])∧Kd.R (Kd.int .u8) 5 w' w.heap.size (fun _=>True) v0_ r1∧Below w.heap.size w w':=by
 unfold Qch.f at h
 by_cases h0:0≤a0_1
 ·by_cases h1:a0_1<18446744073709551616
  ·rw[if_pos h0,if_pos h1]at h
   by_cases h2:chk a0_0 a0_2 a0_3=0
   ·rw[if_pos h2]at h
    cases h
    exact body_of _ _ _ _ w h0 h1 h2
   ·rw[if_neg h2]at h
    cases h
    exact Qln _ _ _ _ w _ rfl h2
  ·rw[if_pos h0,if_neg h1]at h;cases h
 ·rw[if_neg h0]at h;cases h
theorem Qmh(a0:Int)(A1:Option Addr)(c1:Nat)(l1:List Int)(w:World)(hr1:Kd.C (Kd.int .u8) w A1 l1.length l1)(hl:l1.length≤140737488355328) :
  Calls Tryz.prog 107 #[.int .u64 a0,.slice A1 l1.length c1] w fun e w'=>e=.returned (.int .u64 (Qmf a0 l1))∧Below w.heap.size w w':=by
 go_enter Tryz.func107,Tryz.ntmps107
 go_wp2_with (first |(go_at_call 154;refine(st_New a0 w).mono ?_;rintro e w1 ⟨rfl,⟨rv,hv,hR⟩,hb1⟩;have hv1:StAt w1 w.heap.size a0 (IntKind.u64.wrap (IntKind.u64.wrap (a0+Q1)+Q2),IntKind.u64.wrap (a0+Q2),a0,IntKind.u64.wrap (a0-Q1)) rv 0:=hv;have hr:=Kd.C_below hr1 hb1;have hf:=Kd.far_C (0:Int) hr1 (Nat.le_refl w.heap.size)) |(go_at_call 155;refine(Qmg w.heap.size w.heap.size a0 _ rv A1 c1 l1 w1 hr hf hv1 hR (Nat.le_refl _) hb1.size hl).mono ?_;rintro e w2 ⟨rfl,⟨rv2,hv2,hR2⟩,hb2⟩) |(go_at_call 156;refine(st_Sum w.heap.size w.heap.size a0 _ rv2 _ _ w2 hv2 (Kd.Q_of_R hR2)).mono ?_;rintro e w3 ⟨rfl,hb3⟩))
 go_ret
 exact⟨rfl,(hb1.trans hb2).trans (Qju hb3 (Nat.le_trans hb1.size hb2.size))⟩
theorem sum_of'(a0:Int)(A1:Option Addr)(c1 n:Nat)(l1:List Int)(w:World)(hn:n=l1.length)(hr1:Kd.C (Kd.int .u8) w A1 n l1)(hl:n≤140737488355328) :
  Calls Tryz.prog 107 #[.int .u64 a0,.slice A1 n c1] w fun e w'=>e=.returned (.int .u64 (Qmf a0 l1))∧Below w.heap.size w w':=by
 subst hn;exact Qmh a0 A1 c1 l1 w hr1 hl
theorem hash_of(s:ByteArray)(w:World)(hl:s.size≤140737488355328) :
  Calls Tryz.prog 62 #[.string s] w fun e w'=>e=.returned (.int .u64 (Qmf 0 (bytesOf s)))∧Below w.heap.size w w':=by
 have kb:=fun W=>Qdg (P:=Tryz.prog) 9 40 5 Tryz.underlying9 Tryz.underlying40 Tryz.underlying5 s W
 have hbb:=Qdi (Below.refl w.heap.size w) (Nat.le_refl _) 5 s
 go_enter Tryz.func62,Tryz.ntmps62
 go_wp2_with (go_at_call 107;refine(sum_of' 0 _ _ s.size (bytesOf s) (Lib.bytesWorld w 5 s) (Qde s).symm (Qlc w s (by omega)) hl).mono ?_;rintro e w1 ⟨rfl,hb1⟩)
 go_ret
 exact⟨rfl,Qcv hbb hbb.size hb1⟩
theorem Qmi(x:Int):0≤IntKind.u64.wrap x∧IntKind.u64.wrap x<18446744073709551616:=by
 simp[IntKind.wrap,IntKind.signed,IntKind.bits];omega
theorem Qmj(op:BinOp)(x y:Int):0≤Go.bits op .u64 x y∧Go.bits op .u64 x y<18446744073709551616:=by
 unfold Go.bits;split<;>exact Qmi _
theorem Qmk(sd:Int)(l:List Int):0≤Qmf sd l∧Qmf sd l<18446744073709551616:=by
 unfold Qmf sumP finP;split<;>exact Qmj _ _ _
def Qml(b:List Int):List Int:=Qks (b++leb (Qmf 0 b) 8)++[0]
theorem Qmm:∀(n:Nat) (b:List Int),b.length≤n→(Qks b).length≤2*b.length+1
 | n,b,h=>by
  rcases Int.lt_or_le (ixOf (b.take 254) 0) 0 with h0|h0
  ·by_cases hl:254<b.length
   ·rw[Qkw h0 hl];have hd:(b.drop 254).length<b.length:=by rw[List.length_drop];omega
    cases n with
    | zero=>omega
    | succ n =>
     have:=Qmm n (b.drop 254) (by omega);simp only[List.length_cons,List.length_append,List.length_take,List.length_drop]at this ⊢;omega
   ·rw[Qkx h0 hl];simp;omega
  ·obtain⟨p,hp⟩:=Int.eq_ofNat_of_zero_le h0;have h1:=(Qkq (b.take 254) 0).2;rw[hp,List.length_take]at h1;rw[Qkv hp]
   cases n with
   | zero=>omega
   | succ n =>
    have:=Qmm n (b.drop (p+1)) qq_24;simp only[List.length_cons,List.length_append,List.length_take,List.length_drop]at this ⊢;omega
theorem R8.reads{W:World}{b:Nat}{v:Value}{xs:List Int}(h:R8 W b v xs):∃A n c,v=.slice A n c∧Aside0 (n=xs.length)∧n≤c∧Kd.C (Kd.int .u8) W A n xs:=by
 obtain⟨A,c,e,h1,h2⟩:=Kd.R_reads h;exact⟨A,_,c,e,⟨rfl⟩,h1,h2⟩
theorem Qmn(A:Option Addr)(n c:Nat)(l:List Int)(w:World)(hC:Kd.C (Kd.int .u8) w A n l)(hc:n≤c)(hl:l.length≤35184372088832) :
  Calls Tryz.prog 151 #[.slice A n c] w fun e w'=>∃v0_:Value,e=.returned (v0_)∧R8 w' w.heap.size v0_ (Qks l)∧Below w.heap.size w w':=by
 have hn:=hC.1;subst hn;exact Qky A c l w hC hc hl
theorem Qmo(l:List Int):([]++l++leb (Qmf 0 l) 8).length=l.length+8:=by simp[Qjs]
theorem Qmp(A0:Option Addr)(c0:Nat)(l0:List Int)(w:World)(hr0:Kd.C (Kd.int .u8) w A0 l0.length l0)(hl:l0.length≤35184372088824) :
  Calls Tryz.prog 103 #[.slice A0 l0.length c0] w fun e w'=>∃a:Value,e=.returned (a)∧R8 w' w.heap.size a (Qml l0)∧Below w.heap.size w w':=by
 have hI0:=QA (IsBuf.new w w.heap.size);have hb0:Below w.heap.size w (w.alloc (.cells #[.slice none 0 0] 184)):=Qcs (Below.refl _ _) _;have hz0:w.heap.size≤(w.alloc (.cells #[.slice none 0 0] 184)).heap.size:=hb0.size;have hC0:=Kd.C_below hr0 hb0;have hh:=Qmk 0 l0
 go_enter Tryz.func103,Tryz.ntmps103
 go_wp2_with (first
  |(go_at_call 149;refine(Qkd w.heap.size w.heap.size A0 c0 l0 [] _ hC0 (Nat.le_refl _) hz0 hI0.out qq_30).mono ?_;rintro e w1 ⟨rfl,hI1,hb1⟩;have hC1:=Kd.C_below hr0 (hb0.trans hb1.1))
  |(go_at_call 107;refine(Qmh 0 A0 c0 l0 w1 hC1 (by omega)).mono ?_;rintro e w2 ⟨rfl,hb2⟩;have hI2:=hI1.kept hb2)
  |(go_at_call 150;refine(Qkb w.heap.size w.heap.size _ _ w2 hh.1 hh.2 (Nat.le_refl _) (Nat.le_trans (Nat.le_trans hz0 hb1.size) hb2.size) hI2 qq_30).mono ?_;rintro e w3 ⟨rfl,hI3,hb3⟩)
  |(go_at_call 104;refine(Qkf w.heap.size w.heap.size _ w3 hI3 (by rw[Qmo];omega)).mono ?_;rintro e w4 ⟨v4,rfl,hR4,hb4⟩;obtain⟨A4,n4,c4,rfl,d,hlc4,hC4⟩:=R8.reads hR4)
  |(go_at_call 151;refine(Qmn A4 n4 c4 _ w4 hC4 hlc4 (by rw[Qmo];omega)).mono ?_;rintro e w5 ⟨v5,rfl,hR5,hb5⟩;have b:=QA hR5;have hz5:w.heap.size≤w5.heap.size:=Nat.le_trans (Nat.le_trans (Nat.le_trans (Nat.le_trans (Nat.le_trans hz0 hb1.size) hb2.size) hb3.size) hb4.size) hb5.size;have hB5:=QA (show Below w.heap.size w w5 from((((hb0.trans hb1.1).trans (Qju hb2 (Nat.le_trans hz0 hb1.size))).trans hb3.1).trans (Qju hb4 (Nat.le_trans (Nat.le_trans (Nat.le_trans hz0 hb1.size) hb2.size) hb3.size))).trans (Qju hb5 (Nat.le_trans (Nat.le_trans (Nat.le_trans (Nat.le_trans hz0 hb1.size) hb2.size) hb3.size) hb4.size)));clear hR5)
  |(at_builtin;refine Kd.R_append (Kd.int .u8) (w0:=w) w.heap.size rfl (.tmp 10) (.tmp 11) 40 5 (.int .u8 0) 1 rfl Tryz.underlying40 Qit rfl (by decide) (by omega) v5 (Qks ([]++l0++leb (Qmf 0 l0) 8)) 0 [.int .u8 0] (fun _=>True) (fun _=>False) rfl ?ax ?aP (fun _ hk=>hk.elim) ?aF ?aO ?aB ?aS ?aL ?_;(case ax=>rfl);(case aP=>rfl);(case aF=>exact fun _ _=>trivial);(case aO=>exact b.out.low (Nat.le_trans (Nat.le_trans (Nat.le_trans (Nat.le_trans hz0 hb1.size) hb2.size) hb3.size) hb4.size));(case aB=>exact hB5.out);(case aS=>exact hz5);(case aL=>have:=Qmm _ ([]++l0++leb (Qmf 0 l0) 8) (Nat.le_refl _);rw[Qmo]at this;omega);intro v6 w6 c hb6 g hat6))
 go_ret
 exact⟨v6,rfl,c,hb6⟩
def Qbv.f(l0:List Int):Option (List Int):=if l0.length≤35184372088824 then some (Qml l0)else none
theorem Qbv.calls(A0:Option Addr)(c0:Nat)(l0:List Int)(r:List Int)(w:World)(hr0:Kd.C (Kd.int .u8) w A0 l0.length l0)(hc0:l0.length≤c0)(h:Qbv.f l0=some r) :
  Calls Tryz.prog 103 #[.slice A0 l0.length c0] w fun e w'=>∃v0_:Value,e=.returned (v0_)∧Kd.R (Kd.int .u8) 5 w' w.heap.size (fun _=>True) v0_ r∧Below w.heap.size w w':=by
 unfold Qbv.f at h
 by_cases hl:l0.length≤35184372088824
 ·rw[if_pos hl]at h
  cases h
  exact Qmp A0 c0 l0 w hr0 hl
 ·rw[if_neg hl]at h;cases h
def Qmq(e s n:Int):List Int:=Qml ([1,2,e]++vput 9 s++vput 9 n)
def Qbt.f(a0_0 a0_1 a1:Int):Option (List Int × Int) :=
 (Qbx.f a0_0 a0_1 a1).bind fun e=>if e=0 then(if 0≤a0_0∧a0_0<256∧0≤a0_1∧a0_1<4294967296∧0≤a1∧a1<4294967296 then some (Qmq a0_0 a0_1 a1,0)else none)else some ([],e)
theorem Qmr(A:Option Addr)(n c:Nat)(l:List Int)(w:World)(hC:Kd.C (Kd.int .u8) w A n l)(hl:l.length≤35184372088824) :
  Calls Tryz.prog 103 #[.slice A n c] w fun e w'=>∃v0_:Value,e=.returned (v0_)∧R8 w' w.heap.size v0_ (Qml l)∧Below w.heap.size w w':=by
 have hn:=hC.1;subst hn;exact Qmp A c l w hC hl
theorem box2{W:World}{B:Nat}{e s:Int}(h:W.heap[B]? = some (.cells #[.int .u8 e,.int .u32 s] 28 (0,0))):W.cell? ⟨B,0,none⟩=some (.int .u8 e)∧W.cell? ⟨B,1,none⟩=some (.int .u32 s) :=
 ⟨(Qdr h 0).trans rfl,(Qdr h 1).trans rfl⟩
theorem head_of(e s n:Int)(w:World)(hc:Qbx.f e s n=some 0)(he0:0≤e)(he1:e<256)(hs0:0≤s)(hs1:s<4294967296)(b:0≤n)(d:n<4294967296) :
  Calls Tryz.prog 57 #[.agg #[.int .u8 e,.int .u32 s],.int .u32 n] w fun ee w'=>∃a:Value,ee=.returned (.tuple #[a,.int .i64 0])∧R8 w' w.heap.size a (Qmq e s n)∧Below w.heap.size w w':=by
 have hu:=Tryz.underlying28;have hl1:=Qla 9 s;have hl2:=Qla 9 n;have HC:=QA hc;clear hc;have hba:Below w.heap.size w (w.alloc (.cells #[.int .u8 e,.int .u32 s] 28)):=Qcs (Below.refl _ _) _;have hbn:=Qeh w (.cells #[.int .u8 e,.int .u32 s] 28)
 go_enter Tryz.func57,Tryz.ntmps57
 go_wp2_with (first
  |(go_at_call 100;refine(Qbx.calls e s n 0 _ HC.out).mono ?_;rintro ee w1 ⟨rfl,hb1⟩;have hk1:=Qeg hbn hb1;have hw1:=QA (Qcv hba hba.size hb1);have hs1':=QA (show w.heap.size<w1.heap.size from Qdq hk1);have HI1:=QA (IsBuf.new w1 w.heap.size);have hk1':=Qed hk1 (.cells #[.slice none 0 0] 184);obtain⟨c0,c1⟩:=box2 hk1';clear hk1 hb1 hbn hba))
 obtain⟨W,hW⟩:∃W,W=w1.alloc (.cells #[.slice none 0 0] 184):=⟨_,rfl⟩;have hbW:Below w1.heap.size w1 W:=by rw[hW];exact Qcs (Below.refl _ _) _
 rw[← hW]at hk1' c0 c1 HI1 ⊢;clear hW;have hkd:=Qeg hk1' (Qct (Below.refl W.heap.size W));have hId:=HI1.out.kept (Qct (Below.refl W.heap.size W));obtain⟨j0,j1⟩:=box2 hkd;have hg:=Nat.le_of_lt hs1'.out;have hzd:w.heap.size≤W.drew.heap.size:=Nat.le_trans hg hbW.size;have hne:=Nat.ne_of_lt hs1'.out
 go_region_held3 (fun w'=>w'.cell? ⟨w.heap.size,0,none⟩=some (.int .u8 e)∧w'.cell? ⟨w.heap.size,1,none⟩=some (.int .u32 s)) (first|exact⟨j0,j1⟩|exact⟨i0,i1⟩|exact⟨i2,i3⟩|exact⟨i4,i5⟩) (first
  |(go_at_call_of 101 (Value.int .u8 1);refine(Qjy w.heap.size w1.heap.size 1 [] W.drew (by decide) (by decide) hg hzd hId (by simp)).mono ?_;rintro ee w2 ⟨rfl,hI2,hb2⟩;have hk2:=hb2.2 _ _ _ hkd (by decide) hne;obtain⟨i0,i1⟩:=box2 hk2)
  |(go_at_call_of 101 (Value.int .u8 2);refine(Qjy w.heap.size w1.heap.size 2 ([]++[1]) w2 (by decide) (by decide) hg (Nat.le_trans hzd hb2.size) hI2 (by simp)).mono ?_;rintro ee w3 ⟨rfl,hI3,hb3⟩;have hk3:=hb3.2 _ _ _ hk2 (by decide) hne;obtain⟨i2,i3⟩:=box2 hk3)
  |(go_at_call_of 101 (Value.int .u8 e);refine(Qjy w.heap.size w1.heap.size e ([]++[1]++[2]) w3 he0 he1 hg (Nat.le_trans (Nat.le_trans hzd hb2.size) hb3.size) hI3 (by simp)).mono ?_;rintro ee w4 ⟨rfl,hI4,hb4⟩;have hk4:=hb4.2 _ _ _ hk3 (by decide) hne;obtain⟨i4,i5⟩:=box2 hk4))
 have hz4:w.heap.size≤w4.heap.size:=Nat.le_trans (Nat.le_trans (Nat.le_trans hzd hb2.size) hb3.size) hb4.size;have c:=QA (show Below w.heap.size w w4 from((((hw1.out.trans (Qju hbW hg)).trans (Qju (Qct (Below.refl W.heap.size W)) (Nat.le_trans hg hbW.size))).trans hb2.1).trans hb3.1).trans hb4.1);clear i0 i1 i2 i3 j0 j1 hk2 hk3 hb2 hb3 hb4 hI2 hI3 hkd hId
 go_wp2_with (first
  |(go_at_call_of 102 (Value.int .u64 s);refine(Qlb w.heap.size w1.heap.size s _ w4 hs0 (by omega) hg hz4 hI4 (by simp)).mono ?_;rintro ee w5 ⟨⟨_,rfl⟩,hI5,hb5⟩)
  |(go_at_call_of 102 (Value.int .u64 n);refine(Qlb w.heap.size w1.heap.size n _ w5 b (by omega) hg (Nat.le_trans hz4 hb5.size) hI5 qq_30).mono ?_;rintro ee w6 ⟨⟨_,rfl⟩,hI6,hb6⟩)
  |(go_at_call 104;refine(Qkf w.heap.size w1.heap.size _ w6 hI6 qq_30).mono ?_;rintro ee w7 ⟨v7,rfl,hR7,hb7⟩;obtain⟨A7,n7,c7,rfl,g,hlc7,hC7⟩:=R8.reads hR7)
  |(go_at_call 103;refine(Qmr A7 n7 c7 _ w7 hC7 qq_30).mono ?_;rintro ee w8 ⟨v8,rfl,hR8,hb8⟩))
 refine bodyPost_ret (results_tmp2 rfl _ _ _) rfl ?_;have hz6:w.heap.size≤w6.heap.size:=Nat.le_trans (Nat.le_trans hz4 hb5.size) hb6.size;have hz7:w.heap.size≤w7.heap.size:=Nat.le_trans hz6 hb7.size;exact⟨v8,rfl,R8.low hR8 hz7,(((c.out.trans hb5.1).trans hb6.1).trans (Qju hb7 hz6)).trans (Qju hb8 hz7)⟩
theorem Qms(e s n c:Int)(w:World)(hc:Qbx.f e s n=some c)(hn:c≠0) :
  Calls Tryz.prog 57 #[.agg #[.int .u8 e,.int .u32 s],.int .u32 n] w fun ee w'=>∃v0_:Value,ee=.returned (.tuple #[v0_,.int .i64 c])∧R8 w' w.heap.size v0_ []∧Below w.heap.size w w':=by
 have hu:=Tryz.underlying28;have HC:=QA hc;clear hc;have hn1:(c == 0)=false:=by simpa using hn
 have hn2:(c != 0)=true:=by simpa using hn
 have hba:Below w.heap.size w (w.alloc (.cells #[.int .u8 e,.int .u32 s] 28)):=Qcs (Below.refl _ _) _
 go_enter Tryz.func57,Tryz.ntmps57
 go_wp2_with (go_at_call 100;refine(Qbx.calls e s n c _ HC.out).mono ?_;rintro ee w1 ⟨rfl,hb1⟩)
 refine bodyPost_ret (results_tmp2 rfl _ _ _) rfl ?_;exact⟨_,rfl,Kd.R_nil _ _ _ _ _,Qcv hba hba.size hb1⟩
theorem Qbt.calls(a0_0 a0_1 a1:Int)(r1:List Int)(r2:Int)(w:World)(h:Qbt.f a0_0 a0_1 a1=some (r1,r2)) :
  Calls Tryz.prog 57 #[.agg #[.int .u8 a0_0,.int .u32 a0_1],.int .u32 a1] w fun e w'=>∃v0_:Value,e=.returned (.tuple #[v0_,.int .i64 r2])∧Kd.R (Kd.int .u8) 5 w' w.heap.size (fun _=>True) v0_ r1∧Below w.heap.size w w':=by
 unfold Qbt.f at h;obtain⟨c,hc,h⟩:=Option.bind_eq_some_iff.mp h
 by_cases h0:c=0
 ·subst h0;rw[if_pos rfl]at h
  by_cases h1:0≤a0_0∧a0_0<256∧0≤a0_1∧a0_1<4294967296∧0≤a1∧a1<4294967296
  ·rw[if_pos h1]at h
   cases h
   exact head_of _ _ _ w hc h1.1 h1.2.1 h1.2.2.1 h1.2.2.2.1 h1.2.2.2.2.1 h1.2.2.2.2.2
  ·rw[if_neg h1]at h;cases h
 ·rw[if_neg h0]at h
  cases h
  exact Qms _ _ _ _ w hc h0
end Go.Proofs.YteaocbonofboeaaGreat.C
end
section
namespace Go.Proofs.YteaocbonofboeaaGreat.C
open Go.RowKit Go.Proofs.YteaocbonofboeaaGreatW.PrintWords Go.Proofs.YteaocbonofboeaaGreatW.PrintLast Go.Proofs.YteaocbonofboeaaGreatW.PrintMore
attribute [local go_sem] Qie Qif Qig Qih Qii Qij Qik Qil
def Qbu.f(a0_0:Bool)(a0_1:Int)(a0_2:ByteArray)(a0_3:ByteArray):Option (List Int × Int):=(Qch.f a0_0 a0_1 a0_2 a0_3).bind fun bt179=>(if bt179.2=0 then((Qbv.f bt179.1).bind fun t183=>(some (t183,0)))else(some (([]:List Int),bt179.2)))
theorem Qbu.calls(b:Bool)(c:Int)(d:ByteArray)(j:ByteArray)(r1:List Int)(r2:Int)(w:World)(h:Qbu.f b c d j=some (r1,r2)) :
  Calls Tryz.prog 59 #[.agg #[.bool b,.int .u64 c,.string d,.string j]] w fun e w'=>∃u:Value,e=.returned (.tuple #[u,.int .i64 r2])∧Kd.R (Kd.int .u8) 5 w' w.heap.size (fun _=>True) u r1∧Below w.heap.size w w':=by
 have hu37:=Tryz.underlying37;have HB:=QA (Below.refl w.heap.size w);have H:((Qch.f b c d j).bind fun bt179=>(if bt179.2=0 then((Qbv.f bt179.1).bind fun p=>(some (p,0)))else(some (([]:List Int),bt179.2))))=some (r1,r2):=h;clear h;replace H:=Option.bind_eq_some_iff.mp H;obtain⟨⟨q,l⟩,v,H⟩:=H;replace H:(if l=0 then((Qbv.f q).bind fun p=>(some (p,0)))else(some (([]:List Int),l)))=some (r1,r2):=H;have A2:=QA v;clear v
 by_cases c3:l=0
 ·rw[if_pos c3]at H;have y:(l == 0)=true:=beq_iff_eq.mpr c3;have z:(l != 0)=false:=bne_eq_false_iff_eq.mpr c3;clear c3;replace H:=Option.bind_eq_some_iff.mp H;obtain⟨p,x,H⟩:=H;have A4:=QA x;clear x;simp only[Option.some.injEq,Prod.mk.injEq]at H;obtain⟨rfl,rfl⟩:=H
  go_enter Tryz.func59,Tryz.ntmps59
  go_wp2_with (first |((with_reducible refine Qft (N:=1) rfl ?_);refine qq_e 1 #[.bool b,.int .u64 c,.string d,.string j] 37 ?_;intro k hg w5 hbox hb;have n_:=qn4 (Qfi qq_b hb) (hbox) (qq_s hg:w.heap.size≤k) (qq_s hg:w.heap.size≤k);clear HB;obtain⟨HB,a,r,s⟩:=n_;clear hb hbox hg;obtain⟨I,J,K,L⟩:=qc4 a.out;have O:=Qds a.out) |((with_reducible refine Qim (f:=105) rfl ?_);refine Qgo (some 8) rfl rfl Tryz.func105 qq_4 rfl #[.agg #[.bool b,.int .u64 c,.string d,.string j]] rfl qq_1 ?_;(with_reducible refine(Qch.calls b c d j q l _ A2.out).mono ?_);rintro e w7 ⟨A,rfl,n,hb⟩;refine⟨_,rfl,?_⟩;have n_:=qn3 (Kd.R_lower n (Qfh qq_b)) (Qeg (g:=k) (o:=.cells #[.bool b,.int .u64 c,.string d,.string j] 37 (0,0)) qq_0 hb) (Qfi qq_b hb);clear a HB;obtain⟨m,a,HB⟩:=n_;(try clear hb);(try clear hb2);(try clear hk);(try clear hi);(try clear n);obtain⟨Ao8,co8,eo8⟩:=Kd.R_slice m.out;subst eo8) |((with_reducible refine Qim (f:=103) rfl ?_);refine Qgo (some 15) rfl rfl Tryz.func103 qq_4 rfl #[.slice Ao8 q.length co8] rfl qq_1 ?_;(with_reducible refine(Qbv.calls _ _ q p _ ?side1 ?side2 A4.out).mono ?_);(case side1=>repeat(first|exact(Kd.R_reads' m.out).2.2 |(with_reducible refine Kd.C_alloc ?_ _) |(with_reducible refine Kd.C_drewN ?_ _) |(with_reducible refine Kd.C_drew ?_)));(case side2=>exact(Kd.R_reads' m.out).2.1);rintro e w9 ⟨P,rfl,n,hb⟩;refine⟨_,rfl,?_⟩;have n_:=qn4 (Kd.R_elder' qq_8 (Kd.R_base n) hb) (Kd.R_lower (Kd.R_new' n (Kd.R_lt qq_8)) (Qfh qq_b)) (Qeg (g:=k) (o:=.cells #[.bool b,.int .u64 c,.string d,.string j] 37 (0,0)) qq_0 hb) (Qfi qq_b hb);clear m a HB;obtain⟨m,t,a,HB⟩:=n_;(try clear hb);(try clear hb2);(try clear hk);(try clear hi);(try clear n)))
  go_ret2
  exact⟨_,by first|rfl |(simp[Qir,Qis]<;>rfl) |(simp[*,Qir,Qis]<;>rfl),by(with_reducible repeat(first|apply Kd.R_alloc|apply Kd.R_drewN|apply Kd.R_drew));exact Kd.R_mono t.out (fun _ hk=>trivial),qq_b⟩
 ·rw[if_neg c3]at H;have y:(l == 0)=false:=beq_eq_false_iff_ne.mpr c3;have z:(l != 0)=true:=bne_iff_ne.mpr c3;simp only[Option.some.injEq,Prod.mk.injEq]at H;obtain⟨rfl,rfl⟩:=H
  go_enter Tryz.func59,Tryz.ntmps59
  go_wp2_with (first |((with_reducible refine Qft (N:=1) rfl ?_);refine qq_e 1 #[.bool b,.int .u64 c,.string d,.string j] 37 ?_;intro k hg T hbox hb;have n_:=qn4 (Qfi qq_b hb) (hbox) (qq_s hg:w.heap.size≤k) (qq_s hg:w.heap.size≤k);clear HB;obtain⟨HB,a,r,s⟩:=n_;clear hb hbox hg;obtain⟨B,D,E,G⟩:=qc4 a.out;have M:=Qds a.out) |((with_reducible refine Qim (f:=105) rfl ?_);refine Qgo (some 8) rfl rfl Tryz.func105 qq_4 rfl #[.agg #[.bool b,.int .u64 c,.string d,.string j]] rfl qq_1 ?_;(with_reducible refine(Qch.calls b c d j q l _ A2.out).mono ?_);rintro e U ⟨A,rfl,n,hb⟩;refine⟨_,rfl,?_⟩;have n_:=qn3 (Kd.R_lower n (Qfh qq_b)) (Qeg (g:=k) (o:=.cells #[.bool b,.int .u64 c,.string d,.string j] 37 (0,0)) qq_0 hb) (Qfi qq_b hb);clear a HB;obtain⟨m,a,HB⟩:=n_;(try clear hb);(try clear hb2);(try clear hk);(try clear hi);(try clear n)))
  go_ret2
  exact⟨_,by first|rfl |(simp[Qir,Qis]<;>rfl) |(simp[*,Qir,Qis]<;>rfl),by first|exact Kd.R_nil _ _ _ _ _|exact Kd.N_nil _ _ _ _ _|exact Kd.V_nil _ _ _ _ _|exact Kd.Q_nil _ _ _ _ _|exact Kd.S_nil _ _ _ _ _,qq_b⟩
def Qcb.f(a0_0:Int)(a0_1:Int)(a1:Int):Option (Int × Int × Int × Int × Int × Int):=(Qbt.f a0_0 a0_1 a1).bind fun bt169=>(if bt169.2=0 then(some (a0_0,a0_1,a1,(bt169.1.length:Int),0,0))else(some (0,0,0,0,0,bt169.2)))
theorem Qcb.calls(b:Int)(c:Int)(a1:Int)(r1:Int)(r2:Int)(r3:Int)(r4:Int)(r5:Int)(r6:Int)(w:World)(h:Qcb.f b c a1=some (r1,r2,r3,r4,r5,r6)) :
  Calls Tryz.prog 56 #[.agg #[.int .u8 b,.int .u32 c],.int .u32 a1] w fun e w'=>e=.returned (.tuple #[.agg #[.int .u8 r1,.int .u32 r2,.int .u32 r3,.int .i64 r4,.int .i64 r5],.int .i64 r6])∧Below w.heap.size w w':=by
 have hu28:=Tryz.underlying28;have hu116:=Tryz.underlying116;have HB:=QA (Below.refl w.heap.size w);have H:((Qbt.f b c a1).bind fun bt169=>(if bt169.2=0 then(some (b,c,a1,(bt169.1.length:Int),0,0))else(some (0,0,0,0,0,bt169.2))))=some (r1,r2,r3,r4,r5,r6):=h;clear h;replace H:=Option.bind_eq_some_iff.mp H;obtain⟨⟨p,l⟩,x,H⟩:=H;replace H:(if l=0 then(some (b,c,a1,(p.length:Int),0,0))else(some (0,0,0,0,0,l)))=some (r1,r2,r3,r4,r5,r6):=H;have A3:=QA x;clear x
 by_cases c4:l=0
 ·rw[if_pos c4]at H;have y:(l == 0)=true:=beq_iff_eq.mpr c4;have z:(l != 0)=false:=bne_eq_false_iff_eq.mpr c4;clear c4;simp only[Option.some.injEq,Prod.mk.injEq]at H;obtain⟨rfl,rfl,rfl,rfl,rfl,rfl⟩:=H
  go_enter Tryz.func56,Tryz.ntmps56
  go_wp2_with (first |((with_reducible refine Qft (N:=2) rfl ?_);refine qq_e 2 #[.int .u8 b,.int .u32 c] 28 ?_;intro a hg w5 hbox hb;have n_:=qn4 (Qfi qq_b hb) (hbox) (qq_s hg:w.heap.size≤a) (qq_s hg:w.heap.size≤a);clear HB;obtain⟨HB,d,s,t⟩:=n_;clear hb hbox hg) |((with_reducible refine Qft (N:=4) rfl ?_);refine qq_e 4 #[.int .u8 0,.int .u32 0,.int .u32 0,.int .i64 0,.int .i64 0] 116 ?_;intro j hg w6 hbox hb;have n_:=qn7 (Qeg (g:=a) (o:=.cells #[.int .u8 b,.int .u32 c] 28 (0,0)) qq_0 hb) (Qfi qq_b hb) (hbox) (qq_s hg:w.heap.size≤j) (qq_s hg:w.heap.size≤j) ((by rw[hg];exact Nat.ne_of_lt (Qdq (g:=a) (o:=.cells #[.int .u8 b,.int .u32 c] 28 (0,0)) qq_0):a≠j)) ((by rw[hg];exact Nat.ne_of_gt (Qdq (g:=a) (o:=.cells #[.int .u8 b,.int .u32 c] 28 (0,0)) qq_0):j≠a));clear d HB;obtain⟨d,HB,k,u,v,m,n⟩:=n_;clear hb hbox hg;have af:=m.out;have ag:=n.out;obtain⟨X,Y⟩:=qc2 d.out;have ah:=Qds d.out) |((with_reducible refine Qim (f:=57) rfl ?_);refine Qgo (some 11) rfl rfl Tryz.func57 qq_4 rfl #[.agg #[.int .u8 b,.int .u32 c],.int .u32 a1] rfl qq_1 ?_;(with_reducible refine(Qbt.calls b c a1 p l _ A3.out).mono ?_);rintro e w9 ⟨A,rfl,q,hb⟩;refine⟨_,rfl,?_⟩;have n_:=qn4 (Kd.R_lower q (Qfh qq_b)) (Qeg (g:=a) (o:=.cells #[.int .u8 b,.int .u32 c] 28 (0,0)) qq_0 hb) (Qeg (g:=j) (o:=.cells #[.int .u8 0,.int .u32 0,.int .u32 0,.int .i64 0,.int .i64 0] 116 (0,0)) qq_0 hb) (Qfi qq_b hb);clear d k HB;obtain⟨r,d,k,HB⟩:=n_;(try clear hb);(try clear hb2);(try clear hk);(try clear hi);(try clear q);obtain⟨B,D⟩:=qc2 d.out;have Z:=Qds d.out;obtain⟨Ao11,co11,eo11⟩:=Kd.R_slice r.out;subst eo11;obtain⟨E,G,I,J,K⟩:=qc5 k.out;have aa:=Qds k.out))
  refine bodyPost_ret (Qei rfl _ _ j 116 #[.int .u8 b,.int .u32 c,.int .u32 a1,.int .i64 (p.length:Int),.int .i64 0] (0,0) _ rfl qq_x Tryz.underlying116 rfl qq_4) rfl ?_;exact⟨qq_6,qq_b⟩
 ·rw[if_neg c4]at H;have y:(l == 0)=false:=beq_eq_false_iff_ne.mpr c4;have z:(l != 0)=true:=bne_iff_ne.mpr c4;simp only[Option.some.injEq,Prod.mk.injEq]at H;obtain⟨rfl,rfl,rfl,rfl,rfl,rfl⟩:=H
  go_enter Tryz.func56,Tryz.ntmps56
  go_wp2_with (first |((with_reducible refine Qft (N:=2) rfl ?_);refine qq_e 2 #[.int .u8 b,.int .u32 c] 28 ?_;intro a hg ai hbox hb;have n_:=qn4 (Qfi qq_b hb) (hbox) (qq_s hg:w.heap.size≤a) (qq_s hg:w.heap.size≤a);clear HB;obtain⟨HB,d,s,t⟩:=n_;clear hb hbox hg) |((with_reducible refine Qft (N:=4) rfl ?_);refine qq_e 4 #[.int .u8 0,.int .u32 0,.int .u32 0,.int .i64 0,.int .i64 0] 116 ?_;intro j hg aj hbox hb;have n_:=qn7 (Qeg (g:=a) (o:=.cells #[.int .u8 b,.int .u32 c] 28 (0,0)) qq_0 hb) (Qfi qq_b hb) (hbox) (qq_s hg:w.heap.size≤j) (qq_s hg:w.heap.size≤j) ((by rw[hg];exact Nat.ne_of_lt (Qdq (g:=a) (o:=.cells #[.int .u8 b,.int .u32 c] 28 (0,0)) qq_0):a≠j)) ((by rw[hg];exact Nat.ne_of_gt (Qdq (g:=a) (o:=.cells #[.int .u8 b,.int .u32 c] 28 (0,0)) qq_0):j≠a));clear d HB;obtain⟨d,HB,k,u,v,m,n⟩:=n_;clear hb hbox hg;have ab:=m.out;have ac:=n.out;obtain⟨L,M⟩:=qc2 d.out;have ad:=Qds d.out) |((with_reducible refine Qim (f:=57) rfl ?_);refine Qgo (some 11) rfl rfl Tryz.func57 qq_4 rfl #[.agg #[.int .u8 b,.int .u32 c],.int .u32 a1] rfl qq_1 ?_;(with_reducible refine(Qbt.calls b c a1 p l _ A3.out).mono ?_);rintro e ak ⟨A,rfl,q,hb⟩;refine⟨_,rfl,?_⟩;have n_:=qn4 (Kd.R_lower q (Qfh qq_b)) (Qeg (g:=a) (o:=.cells #[.int .u8 b,.int .u32 c] 28 (0,0)) qq_0 hb) (Qeg (g:=j) (o:=.cells #[.int .u8 0,.int .u32 0,.int .u32 0,.int .i64 0,.int .i64 0] 116 (0,0)) qq_0 hb) (Qfi qq_b hb);clear d k HB;obtain⟨r,d,k,HB⟩:=n_;(try clear hb);(try clear hb2);(try clear hk);(try clear hi);(try clear q);obtain⟨O,P,T,U,W⟩:=qc5 k.out;have ae:=Qds k.out))
  refine bodyPost_ret (Qei rfl _ _ j 116 #[.int .u8 0,.int .u32 0,.int .u32 0,.int .i64 0,.int .i64 0] (0,0) _ rfl qq_x Tryz.underlying116 rfl qq_4) rfl ?_;exact⟨qq_6,qq_b⟩
end Go.Proofs.YteaocbonofboeaaGreat.C
end
