/- Texts of this claim's author and of the print of its functions, merged by merge.py. -/
import Derived.Test.YtnnofopfbeklbaaGreatMI02
import Derived.OpenShut
import Derived.Test.YtnnofopfbeklbaaGreatMI03
import Derived.Test.YtnnofopfbeklbaaGreatMI09
import Derived.Test.YtnnofopfbeklbaaGreatMI06
import Derived.Test.YtnnofopfbeklbaaGreatMI07
import Derived.Laws.Bits64b
import Derived.Test.YtnnofopfbeklbaaGreatMI05
import Derived.Test.YtnnofopfbeklbaaGreatMI08
import Derived.Test.YtnnofopfbeklbaaGreatMI04
set_option linter.unusedVariables false
set_option linter.unusedSimpArgs false
set_option maxHeartbeats 8000000
set_option maxRecDepth 100000
section
namespace Go.Proofs.YtnnofopfbeklbaaGreat.C
open Go.RowKit Go.Proofs.YtnnofopfbeklbaaGreatW.PrintWords Go.Proofs.YtnnofopfbeklbaaGreatW.PrintLast Go.Proofs.YtnnofopfbeklbaaGreatW.PrintMore
theorem Qlj(x:Int):0≤IntKind.u64.wrap x∧IntKind.u64.wrap x<18446744073709551616:=by
 simp[IntKind.wrap,IntKind.signed,IntKind.bits]
 omega
theorem Qlk(op:BinOp)(x y:Int):0≤Go.bits op .u64 x y∧Go.bits op .u64 x y<18446744073709551616:=by
 unfold Go.bits
 split<;>exact Qlj _
theorem Qll(sd:Int)(l:List Int):0≤Qjx sd l∧Qjx sd l<18446744073709551616:=by
 unfold Qjx sumP finP
 split<;>exact Qlk _ _ _
def Qlm(b:List Int):List Int:=Qiy (b++leb (Qjx 0 b) 8)++[0]
theorem Qln:∀(n:Nat) (b:List Int),b.length≤n→(Qiy b).length≤2*b.length+1
 | n,b,h=>by
  rcases Int.lt_or_le (ixOf (b.take 254) 0) 0 with h0|h0
  ·by_cases hl:254<b.length
   ·rw[Qjc h0 hl]
    have hd:(b.drop 254).length<b.length:=by rw[List.length_drop];omega
    cases n with
    | zero=>omega
    | succ n =>
     have:=Qln n (b.drop 254) (by omega)
     simp only[List.length_cons,List.length_append,List.length_take,List.length_drop]at this ⊢
     omega
   ·rw[Qjd h0 hl]
    simp
    omega
  ·obtain⟨p,hp⟩:=Int.eq_ofNat_of_zero_le h0
   have h1:=(Qiw (b.take 254) 0).2
   rw[hp,List.length_take]at h1
   rw[Qjb hp]
   cases n with
   | zero=>omega
   | succ n =>
    have:=Qln n (b.drop (p+1)) qq_12
    simp only[List.length_cons,List.length_append,List.length_take,List.length_drop]at this ⊢
    omega
theorem R8.reads{W:World}{b:Nat}{v:Value}{xs:List Int}(h:R8 W b v xs):∃A n c,v=.slice A n c∧Aside0 (n=xs.length)∧n≤c∧Kd.C (Kd.int .u8) W A n xs:=by
 obtain⟨A,c,e,h1,h2⟩:=Kd.R_reads h
 exact⟨A,_,c,e,⟨rfl⟩,h1,h2⟩
theorem Qlo(A:Option Addr)(n c:Nat)(l:List Int)(w:World)(hC:Kd.C (Kd.int .u8) w A n l)(hc:n≤c)(hl:l.length≤35184372088832) :
  Calls Tryz.prog 152 #[.slice A n c] w fun e w'=>∃v0_:Value,e=.returned (v0_)∧R8 w' w.heap.size v0_ (Qiy l)∧Below w.heap.size w w':=by
 have hn:=hC.1
 subst hn
 exact Qje A c l w hC hc hl
theorem Qlp(l:List Int):([]++l++leb (Qjx 0 l) 8).length=l.length+8:=by simp[Qhy]
theorem Qlq(A0:Option Addr)(c0:Nat)(l0:List Int)(w:World)(hr0:Kd.C (Kd.int .u8) w A0 l0.length l0)(hl:l0.length≤35184372088824) :
  Calls Tryz.prog 96 #[.slice A0 l0.length c0] w fun e w'=>∃v0_:Value,e=.returned (v0_)∧R8 w' w.heap.size v0_ (Qlm l0)∧Below w.heap.size w w':=by
 have hI0:=QA (IsBuf.new w w.heap.size)
 have hb0:Below w.heap.size w (w.alloc (.cells #[.slice none 0 0] 167)):=Qbw (Below.refl _ _) _
 have hz0:w.heap.size≤(w.alloc (.cells #[.slice none 0 0] 167)).heap.size:=hb0.size
 have hC0:=Kd.C_below hr0 hb0
 have hh:=Qll 0 l0
 go_enter Tryz.func96,Tryz.ntmps96
 go_wp2_with (first
  |(go_at_call 150;refine(Qij w.heap.size w.heap.size A0 c0 l0 [] _ hC0 (Nat.le_refl _) hz0 hI0.out qq_13).mono ?_;rintro e w1 ⟨rfl,hI1,hb1⟩;have hC1:=Kd.C_below hr0 (hb0.trans hb1.1))
  |(go_at_call 101;refine(Qjz 0 A0 c0 l0 w1 hC1 (by omega)).mono ?_;rintro e w2 ⟨rfl,hb2⟩;have hI2:=hI1.kept hb2)
  |(go_at_call 151;refine(Qih w.heap.size w.heap.size _ _ w2 hh.1 hh.2 (Nat.le_refl _) (Nat.le_trans (Nat.le_trans hz0 hb1.size) hb2.size) hI2 qq_13).mono ?_;rintro e w3 ⟨rfl,hI3,hb3⟩)
  |(go_at_call 97;refine(Qil w.heap.size w.heap.size _ w3 hI3 (by rw[Qlp];omega)).mono ?_;rintro e w4 ⟨v4,rfl,hR4,hb4⟩;obtain⟨A4,n4,c4,rfl,hn4,hlc4,hC4⟩:=R8.reads hR4)
  |(go_at_call 152;refine(Qlo A4 n4 c4 _ w4 hC4 hlc4 (by rw[Qlp];omega)).mono ?_;rintro e w5 ⟨v5,rfl,hR5,hb5⟩;have HR5:=QA hR5;have hz5:w.heap.size≤w5.heap.size:=Nat.le_trans (Nat.le_trans (Nat.le_trans (Nat.le_trans (Nat.le_trans hz0 hb1.size) hb2.size) hb3.size) hb4.size) hb5.size;have hB5:=QA (show Below w.heap.size w w5 from((((hb0.trans hb1.1).trans (Qia hb2 (Nat.le_trans hz0 hb1.size))).trans hb3.1).trans (Qia hb4 (Nat.le_trans (Nat.le_trans (Nat.le_trans hz0 hb1.size) hb2.size) hb3.size))).trans (Qia hb5 (Nat.le_trans (Nat.le_trans (Nat.le_trans (Nat.le_trans hz0 hb1.size) hb2.size) hb3.size) hb4.size)));clear hR5)
  |(at_builtin;refine Kd.R_append (Kd.int .u8) (w0:=w) w.heap.size rfl (.tmp 10) (.tmp 11) 52 5 (.int .u8 0) 1 rfl Tryz.underlying52 Qhj rfl (by decide) (by omega) v5 (Qiy ([]++l0++leb (Qjx 0 l0) 8)) 0 [.int .u8 0] (fun _=>True) (fun _=>False) rfl ?ax ?aP (fun _ hk=>hk.elim) ?aF ?aO ?aB ?aS ?aL ?_;(case ax=>rfl);(case aP=>rfl);(case aF=>exact fun _ _=>trivial);(case aO=>exact HR5.out.low (Nat.le_trans (Nat.le_trans (Nat.le_trans (Nat.le_trans hz0 hb1.size) hb2.size) hb3.size) hb4.size));(case aB=>exact hB5.out);(case aS=>exact hz5);(case aL=>have:=Qln _ ([]++l0++leb (Qjx 0 l0) 8) (Nat.le_refl _);rw[Qlp]at this;omega);intro v6 w6 HR6 hb6 hg6 hat6))
 go_ret
 exact⟨v6,rfl,HR6,hb6⟩
def Qax.f(l0:List Int):Option (List Int):=if l0.length≤35184372088824 then some (Qlm l0)else none
theorem Qax.calls(A0:Option Addr)(c0:Nat)(l0:List Int)(r:List Int)(w:World)(hr0:Kd.C (Kd.int .u8) w A0 l0.length l0)(hc0:l0.length≤c0)(h:Qax.f l0=some r) :
  Calls Tryz.prog 96 #[.slice A0 l0.length c0] w fun e w'=>∃v0_:Value,e=.returned (v0_)∧Kd.R (Kd.int .u8) 5 w' w.heap.size (fun _=>True) v0_ r∧Below w.heap.size w w':=by
 unfold Qax.f at h
 by_cases hl:l0.length≤35184372088824
 ·rw[if_pos hl]at h
  cases h
  exact Qlq A0 c0 l0 w hr0 hl
 ·rw[if_neg hl]at h;cases h
def Qlr(e s n:Int):List Int:=Qlm ([1,2,e]++vput 9 s++vput 9 n)
def Qav.f(a0_0 a0_1 a1:Int):Option (List Int × Int) :=
 (Qaz.f a0_0 a0_1 a1).bind fun e=>if e=0 then(if 0≤a0_0∧a0_0<256∧0≤a0_1∧a0_1<4294967296∧0≤a1∧a1<4294967296 then some (Qlr a0_0 a0_1 a1,0)else none)else some ([],e)
theorem Qls(A:Option Addr)(n c:Nat)(l:List Int)(w:World)(hC:Kd.C (Kd.int .u8) w A n l)(hl:l.length≤35184372088824) :
  Calls Tryz.prog 96 #[.slice A n c] w fun e w'=>∃v0_:Value,e=.returned (v0_)∧R8 w' w.heap.size v0_ (Qlm l)∧Below w.heap.size w w':=by
 have hn:=hC.1
 subst hn
 exact Qlq A c l w hC hl
theorem box2{W:World}{B:Nat}{e s:Int}(h:W.heap[B]? = some (.cells #[.int .u8 e,.int .u32 s] 27 (0,0))):W.cell? ⟨B,0,none⟩=some (.int .u8 e)∧W.cell? ⟨B,1,none⟩=some (.int .u32 s) :=
 ⟨(Qct h 0).trans rfl,(Qct h 1).trans rfl⟩
theorem head_of(e s n:Int)(w:World)(hc:Qaz.f e s n=some 0)(he0:0≤e)(he1:e<256)(hs0:0≤s)(hs1:s<4294967296)(hn0:0≤n)(hn1:n<4294967296) :
  Calls Tryz.prog 53 #[.agg #[.int .u8 e,.int .u32 s],.int .u32 n] w fun ee w'=>∃v0_:Value,ee=.returned (.tuple #[v0_,.int .i64 0])∧R8 w' w.heap.size v0_ (Qlr e s n)∧Below w.heap.size w w':=by
 have hu:=Tryz.underlying27
 have hl1:=Qjg 9 s
 have hl2:=Qjg 9 n
 have HC:=QA hc
 clear hc
 have hba:Below w.heap.size w (w.alloc (.cells #[.int .u8 e,.int .u32 s] 27)):=Qbw (Below.refl _ _) _
 have hbn:=Qdh w (.cells #[.int .u8 e,.int .u32 s] 27)
 go_enter Tryz.func53,Tryz.ntmps53
 go_wp2_with (first
  |(go_at_call 93;refine(Qaz.calls e s n 0 _ HC.out).mono ?_;rintro ee w1 ⟨rfl,hb1⟩;have hk1:=Qdg hbn hb1;have hw1:=QA (Qbz hba hba.size hb1);have hs1':=QA (show w.heap.size<w1.heap.size from Qcs hk1);have HI1:=QA (IsBuf.new w1 w.heap.size);have hk1':=Qdd hk1 (.cells #[.slice none 0 0] 167);obtain⟨c0,c1⟩:=box2 hk1';clear hk1 hb1 hbn hba))
 obtain⟨W,hW⟩:∃W,W=w1.alloc (.cells #[.slice none 0 0] 167):=⟨_,rfl⟩
 have hbW:Below w1.heap.size w1 W:=by rw[hW];exact Qbw (Below.refl _ _) _
 rw[← hW]at hk1' c0 c1 HI1 ⊢
 clear hW
 have hkd:=Qdg hk1' (Qbx (Below.refl W.heap.size W))
 have hId:=HI1.out.kept (Qbx (Below.refl W.heap.size W))
 obtain⟨j0,j1⟩:=box2 hkd
 have hg:=Nat.le_of_lt hs1'.out
 have hzd:w.heap.size≤W.drew.heap.size:=Nat.le_trans hg hbW.size
 have hne:=Nat.ne_of_lt hs1'.out
 go_region_held3 (fun w'=>w'.cell? ⟨w.heap.size,0,none⟩=some (.int .u8 e)∧w'.cell? ⟨w.heap.size,1,none⟩=some (.int .u32 s)) (first|exact⟨j0,j1⟩|exact⟨i0,i1⟩|exact⟨i2,i3⟩|exact⟨i4,i5⟩) (first
  |(go_at_call_of 94 (Value.int .u8 1);refine(Qie w.heap.size w1.heap.size 1 [] W.drew (by decide) (by decide) hg hzd hId (by simp)).mono ?_;rintro ee w2 ⟨rfl,hI2,hb2⟩;have hk2:=hb2.2 _ _ _ hkd (by decide) hne;obtain⟨i0,i1⟩:=box2 hk2)
  |(go_at_call_of 94 (Value.int .u8 2);refine(Qie w.heap.size w1.heap.size 2 ([]++[1]) w2 (by decide) (by decide) hg (Nat.le_trans hzd hb2.size) hI2 (by simp)).mono ?_;rintro ee w3 ⟨rfl,hI3,hb3⟩;have hk3:=hb3.2 _ _ _ hk2 (by decide) hne;obtain⟨i2,i3⟩:=box2 hk3)
  |(go_at_call_of 94 (Value.int .u8 e);refine(Qie w.heap.size w1.heap.size e ([]++[1]++[2]) w3 he0 he1 hg (Nat.le_trans (Nat.le_trans hzd hb2.size) hb3.size) hI3 (by simp)).mono ?_;rintro ee w4 ⟨rfl,hI4,hb4⟩;have hk4:=hb4.2 _ _ _ hk3 (by decide) hne;obtain⟨i4,i5⟩:=box2 hk4))
 have hz4:w.heap.size≤w4.heap.size:=Nat.le_trans (Nat.le_trans (Nat.le_trans hzd hb2.size) hb3.size) hb4.size
 have HB4:=QA (show Below w.heap.size w w4 from((((hw1.out.trans (Qia hbW hg)).trans (Qia (Qbx (Below.refl W.heap.size W)) (Nat.le_trans hg hbW.size))).trans hb2.1).trans hb3.1).trans hb4.1)
 clear i0 i1 i2 i3 j0 j1 hk2 hk3 hb2 hb3 hb4 hI2 hI3 hkd hId
 go_wp2_with (first
  |(go_at_call_of 95 (Value.int .u64 s);refine(Qjh w.heap.size w1.heap.size s _ w4 hs0 (by omega) hg hz4 hI4 (by simp)).mono ?_;rintro ee w5 ⟨⟨_,rfl⟩,hI5,hb5⟩)
  |(go_at_call_of 95 (Value.int .u64 n);refine(Qjh w.heap.size w1.heap.size n _ w5 hn0 (by omega) hg (Nat.le_trans hz4 hb5.size) hI5 qq_13).mono ?_;rintro ee w6 ⟨⟨_,rfl⟩,hI6,hb6⟩)
  |(go_at_call 97;refine(Qil w.heap.size w1.heap.size _ w6 hI6 qq_13).mono ?_;rintro ee w7 ⟨v7,rfl,hR7,hb7⟩;obtain⟨A7,n7,c7,rfl,hn7,hlc7,hC7⟩:=R8.reads hR7)
  |(go_at_call 96;refine(Qls A7 n7 c7 _ w7 hC7 qq_13).mono ?_;rintro ee w8 ⟨v8,rfl,hR8,hb8⟩))
 refine bodyPost_ret (results_tmp2 rfl _ _ _) rfl ?_
 have hz6:w.heap.size≤w6.heap.size:=Nat.le_trans (Nat.le_trans hz4 hb5.size) hb6.size
 have hz7:w.heap.size≤w7.heap.size:=Nat.le_trans hz6 hb7.size
 exact⟨v8,rfl,R8.low hR8 hz7,(((HB4.out.trans hb5.1).trans hb6.1).trans (Qia hb7 hz6)).trans (Qia hb8 hz7)⟩
theorem Qlt(e s n c:Int)(w:World)(hc:Qaz.f e s n=some c)(hn:c≠0) :
  Calls Tryz.prog 53 #[.agg #[.int .u8 e,.int .u32 s],.int .u32 n] w fun ee w'=>∃v0_:Value,ee=.returned (.tuple #[v0_,.int .i64 c])∧R8 w' w.heap.size v0_ []∧Below w.heap.size w w':=by
 have hu:=Tryz.underlying27
 have HC:=QA hc
 clear hc
 have hn1:(c == 0)=false:=by simpa using hn
 have hn2:(c != 0)=true:=by simpa using hn
 have hba:Below w.heap.size w (w.alloc (.cells #[.int .u8 e,.int .u32 s] 27)):=Qbw (Below.refl _ _) _
 go_enter Tryz.func53,Tryz.ntmps53
 go_wp2_with (go_at_call 93;refine(Qaz.calls e s n c _ HC.out).mono ?_;rintro ee w1 ⟨rfl,hb1⟩)
 refine bodyPost_ret (results_tmp2 rfl _ _ _) rfl ?_
 exact⟨_,rfl,Kd.R_nil _ _ _ _ _,Qbz hba hba.size hb1⟩
theorem Qav.calls(a0_0 a0_1 a1:Int)(r1:List Int)(r2:Int)(w:World)(h:Qav.f a0_0 a0_1 a1=some (r1,r2)) :
  Calls Tryz.prog 53 #[.agg #[.int .u8 a0_0,.int .u32 a0_1],.int .u32 a1] w fun e w'=>∃v0_:Value,e=.returned (.tuple #[v0_,.int .i64 r2])∧Kd.R (Kd.int .u8) 5 w' w.heap.size (fun _=>True) v0_ r1∧Below w.heap.size w w':=by
 unfold Qav.f at h
 obtain⟨c,hc,h⟩:=Option.bind_eq_some_iff.mp h
 by_cases h0:c=0
 ·subst h0
  rw[if_pos rfl]at h
  by_cases h1:0≤a0_0∧a0_0<256∧0≤a0_1∧a0_1<4294967296∧0≤a1∧a1<4294967296
  ·rw[if_pos h1]at h
   cases h
   exact head_of _ _ _ w hc h1.1 h1.2.1 h1.2.2.1 h1.2.2.2.1 h1.2.2.2.2.1 h1.2.2.2.2.2
  ·rw[if_neg h1]at h;cases h
 ·rw[if_neg h0]at h
  cases h
  exact Qlt _ _ _ _ w hc h0
end Go.Proofs.YtnnofopfbeklbaaGreat.C
end
section
namespace Go.Proofs.YtnnofopfbeklbaaGreat.CodecP
open Go.RowKit Go.Proofs.YtnnofopfbeklbaaGreat.C Go.Proofs.YtnnofopfbeklbaaGreatW.PrintWords Go.Proofs.YtnnofopfbeklbaaGreatW.PrintLast Go.Proofs.YtnnofopfbeklbaaGreatW.PrintMore
def leI:List Int→Int
 | []=>0
 | b :: l=>b+256*leI l
def Bytes(l:List Int):Prop:=∀x∈l,0≤x∧x<256
theorem Bytes.drop{l:List Int}(h:Bytes l)(n:Nat):Bytes (l.drop n):=fun x hx=>h x (List.mem_of_mem_drop hx)
theorem Bytes.take{l:List Int}(h:Bytes l)(n:Nat):Bytes (l.take n):=fun x hx=>h x (List.mem_of_mem_take hx)
theorem leI_range{l:List Int}(h:Bytes l):0≤leI l∧leI l<256^l.length:=by
 induction l with
 | nil=>simp[leI]
 | cons b l ih =>
  have h1:=ih (fun x hx=>h x (List.mem_cons_of_mem _ hx))
  have h2:=h b (List.mem_cons_self ..)
  simp only[leI,List.length_cons,Int.pow_succ]
  omega
theorem Qka(l:List Int)(b:Int):leI (l++[b])=leI l+256^l.length*b:=by
 induction l with
 | nil=>simp[leI]
 | cons a l ih=>simp only[List.cons_append,leI,ih,List.length_cons,Int.pow_succ];rw[Int.mul_add,Int.mul_comm (256^l.length) 256,Int.mul_assoc];omega
theorem Qkb{l:List Int}{i:Nat}(h:i<l.length):rd l (i:Int)=l[i]:=by simp[rd,List.getD,List.getElem?_eq_getElem h]
theorem Qkc{l:List Int}{i:Nat}(h:i<l.length):l.take (i+1)=l.take i++[rd l (i:Int)]:=by rw[List.take_succ_eq_append_getElem h,Qkb h]
theorem Qkd{l:List Int}(hb:Bytes l){i:Nat}(h:i<l.length):0≤rd l (i:Int)∧rd l (i:Int)<256:=by rw[Qkb h];exact hb _ (List.getElem_mem h)
theorem num_key(l:List Int)(hb:Bytes l)(hn8:l.length≤8):Qbv.l0 (l.length+1) l 0 (l.length:Int) 0=some (leI l):=by
 obtain⟨n,hl'⟩:∃n,n=l.length:=⟨_,rfl⟩
 have hl:n≤l.length:=by omega
 have hn:n≤8:=by omega
 have key:∀(d i:Nat),i+d=n→Qbv.l0 (d+1) l (leI (l.take i)) (n:Int) (i:Int)=some (leI (l.take n)):=by
  intro d
  induction d with
  | zero =>
   intro i h
   unfold Qbv.l0
   obtain rfl:i=n:=by omega
   rw[if_neg (by omega)]
  | succ d ih =>
   intro i h
   unfold Qbv.l0
   have hw:wrap64 (8*(i:Int))=((8*i:Nat):Int):=by unfold wrap64;omega
   rw[if_pos (by omega),if_pos (by omega),if_pos (by omega),hw,if_pos (by omega),show wrap64 ((i:Int)+1)=((i+1:Nat):Int)by unfold wrap64;omega]
   have hr:=leI_range (hb.take i)
   have hlen:(l.take i).length=i:=by rw[List.length_take];omega
   rw[hlen]at hr
   have hd:=Qkd hb (show i<l.length by omega)
   have e:Go.bits .or .u64 (leI (l.take i)) (shl .u64 (IntKind.u64.wrap (rd l (i:Int))) ((8*i:Nat):Int))=leI (l.take (i+1)):=by
    rw[Qkc (by omega),Qka,hlen,IntWalk.u64_in _ (by omega)]
    generalize rd l (i:Int)=b at *
    generalize leI (l.take i)=a at *
    obtain⟨a,rfl⟩:=Int.eq_ofNat_of_zero_le hr.1
    obtain⟨b,rfl⟩:=Int.eq_ofNat_of_zero_le hd.1
    have hp:(256:Nat)^i=2^(8*i):=by rw[Nat.pow_mul]
    have ha:a<2^(8*i):=by
     have:=hr.2
     rw[← hp]
     exact_mod_cast this
    have hbig:b*2^(8*i)<2^64:=by
     have h1:b*2^(8*i)<2^8*2^(8*i):=Nat.mul_lt_mul_of_pos_right (by omega) (Nat.two_pow_pos _)
     have h2:(2:Nat)^8*2^(8*i)≤2^64:=by rw[← Nat.pow_add];exact Nat.pow_le_pow_right (by omega) (by omega)
     omega
    have ha2:a<2^64:=by
     have h2:(2:Nat)^(8*i)≤2^64:=Nat.pow_le_pow_right (by omega) (by omega)
     omega
    unfold shl
    rw[show min ((8*i:Nat):Int).toNat IntKind.u64.bits=8*i by simp[IntKind.bits];omega,IntKind.wrap_u64]
    have e1:((b:Int)*2^(8*i))%18446744073709551616=((2^(8*i)*b:Nat):Int):=by
     have e2:((b:Int)*2^(8*i))=((b*2^(8*i):Nat):Int):=by push_cast;rfl
     rw[e2,Nat.mul_comm (2^(8*i)) b]
     omega
    rw[e1,bits_or_u64_nat _ _ (by omega) (by rw[Nat.mul_comm];omega),Nat.or_comm,← Nat.two_pow_add_eq_or_of_lt ha]
    have e3:((256:Int)^i*(b:Int))=((256^i*b:Nat):Int):=by push_cast;rfl
    rw[e3,hp]
    omega
   rw[e]
   exact ih (i+1) (by omega)
 have h:=key n 0 (by omega)
 rw[show leI (l.take 0)=0 from rfl,show((0:Nat):Int)=0 from rfl,hl',List.take_length]at h
 exact h
theorem Qpn(s:ByteArray):s.toList=([]:List UInt8)↔s.size=0:=by
 constructor
 ·intro h
  have h1:s.toList.length=s.size:=by rw[Lib.toList_data,Qcg]
  rw[h]at h1
  simpa using h1.symm
 ·intro h
  have h1:s.toList.length=s.size:=by rw[Lib.toList_data,Qcg]
  exact List.eq_nil_of_length_eq_zero (by omega)
theorem Qpo(i:Nat)(h:i<4611686018427387904):wrap64 ((i:Int)+1)=((i+1:Nat):Int):=by unfold wrap64;omega
theorem Qpp(i:Nat)(h0:0<i)(h:i<4611686018427387904):wrap64 ((i:Int)-1)=((i-1:Nat):Int):=by unfold wrap64;omega
end Go.Proofs.YtnnofopfbeklbaaGreat.CodecP
end
section
namespace Go.Proofs.YtnnofopfbeklbaaGreat.C
open Go.RowKit Go.Proofs.YtnnofopfbeklbaaGreatW.PrintWords Go.Proofs.YtnnofopfbeklbaaGreatW.PrintLast Go.Proofs.YtnnofopfbeklbaaGreatW.PrintMore
attribute [local go_sem] Qgv Qgw Qgx Qgy Qgz Qha Qhb Qhc
def Qbq.f(a0:Int)(l1:List Int)(a2:Int):Option (Bool):=(Qbr.f a0 l1).bind fun t717=>(some (t717 == a2))
theorem Qbq.calls(a0:Int)(A1:Option Addr)(c1:Nat)(l1:List Int)(a2:Int)(r:Bool)(w:World)(hr1:Kd.C (Kd.int .u8) w A1 l1.length l1)(hc1:l1.length≤c1)(h:Qbq.f a0 l1 a2=some r) :
  Calls Tryz.prog 194 #[.int .u32 a0,.slice A1 l1.length c1,.int .u32 a2] w fun e w'=>e=.returned (.bool r)∧Below w.heap.size w w':=by
 have HR1:=QA hr1
 have HC1:=QA hc1
 clear hr1 hc1
 have HB:=QA (Below.refl w.heap.size w)
 have H:((Qbr.f a0 l1).bind fun t717=>(some (t717 == a2)))=some r:=h
 clear h
 replace H:=Option.bind_eq_some_iff.mp H
 obtain⟨t717,A40,H⟩:=H
 replace H:(some (t717 == a2))=some r:=H
 have A4:=QA A40
 clear A40
 obtain rfl:=Option.some.inj H
 go_enter Tryz.func194,Tryz.ntmps194
 go_wp2_with (first |((with_reducible refine Qhd (f:=224) rfl ?_);refine Qfk (some 9) rfl rfl Tryz.func224 qq_5 rfl #[.int .u32 a0,.slice A1 l1.length c1] rfl qq_1 ?_;(with_reducible refine(Qbr.calls a0 _ _ l1 t717 _ ?side1 ?side2 A4.out).mono ?_);(case side1=>repeat(first|exact HR1.out |(with_reducible refine Kd.C_alloc ?_ _) |(with_reducible refine Kd.C_drewN ?_ _) |(with_reducible refine Kd.C_drew ?_)));(case side2=>exact HC1.out);rintro e w5 ⟨rfl,hb⟩;refine⟨_,rfl,?_⟩;have n0_:=QA (Qeb qq_b hb);clear HB;have HB:=n0_;clear n0_;(try clear hb);(try clear hb2);(try clear hk);(try clear hi)))
 go_ret
 exact⟨by first|rfl |(simp[Qhh,Qhi]<;>rfl) |(simp[*,Qhh,Qhi]<;>rfl),qq_b⟩
def Qaw.f(a0_0:Bool)(a0_1:Int)(a0_2:ByteArray)(a0_3:ByteArray):Option (List Int × Int):=(Qbl.f a0_0 a0_1 a0_2 a0_3).bind fun bt118=>(if bt118.2=0 then((Qax.f bt118.1).bind fun t122=>(some (t122,0)))else(some (([]:List Int),bt118.2)))
theorem Qaw.calls(a0_0:Bool)(a0_1:Int)(a0_2:ByteArray)(a0_3:ByteArray)(r1:List Int)(r2:Int)(w:World)(h:Qaw.f a0_0 a0_1 a0_2 a0_3=some (r1,r2)) :
  Calls Tryz.prog 57 #[.agg #[.bool a0_0,.int .u64 a0_1,.string a0_2,.string a0_3]] w fun e w'=>∃v0_:Value,e=.returned (.tuple #[v0_,.int .i64 r2])∧Kd.R (Kd.int .u8) 5 w' w.heap.size (fun _=>True) v0_ r1∧Below w.heap.size w w':=by
 have hu39:=Tryz.underlying39
 have HB:=QA (Below.refl w.heap.size w)
 have H:((Qbl.f a0_0 a0_1 a0_2 a0_3).bind fun bt118=>(if bt118.2=0 then((Qax.f bt118.1).bind fun t122=>(some (t122,0)))else(some (([]:List Int),bt118.2))))=some (r1,r2):=h
 clear h
 replace H:=Option.bind_eq_some_iff.mp H
 obtain⟨⟨t118,t121⟩,A20,H⟩:=H
 replace H:(if t121=0 then((Qax.f t118).bind fun t122=>(some (t122,0)))else(some (([]:List Int),t121)))=some (r1,r2):=H
 have A2:=QA A20
 clear A20
 by_cases c3:t121=0
 ·rw[if_pos c3]at H
  have c3b0:(t121 == 0)=true:=beq_iff_eq.mpr c3
  have c3b1:(t121 != 0)=false:=bne_eq_false_iff_eq.mpr c3
  clear c3
  replace H:=Option.bind_eq_some_iff.mp H
  obtain⟨t122,A40,H⟩:=H
  replace H:(some (t122,0))=some (r1,r2):=H
  have A4:=QA A40
  clear A40
  simp only[Option.some.injEq,Prod.mk.injEq]at H
  obtain⟨rfl,rfl⟩:=H
  go_enter Tryz.func57,Tryz.ntmps57
  go_wp2_with (first |((with_reducible refine Qel (N:=1) rfl ?_);refine qq_e 1 #[.bool a0_0,.int .u64 a0_1,.string a0_2,.string a0_3] 39 ?_;intro gb117 hg w5 hbox hb;have n0_:=QA (Qeb qq_b hb);have n1_:=QA (hbox);have n2_:=QA (qq_s hg:w.heap.size≤gb117);have n3_:=n2_;clear HB;have HB:=n0_;have BK117:=n1_;have GW117:=n2_;have GE117:=n3_;clear n0_ n1_ n2_ n3_ hb hbox hg;have hcz6_0:=qq_c (.bool a0_0) BK117.out 0 rfl;have hcz6_1:=qq_c (.int .u64 a0_1) BK117.out 1 rfl;have hcz6_2:=qq_c (.string a0_2) BK117.out 2 rfl;have hcz6_3:=qq_c (.string a0_3) BK117.out 3 rfl;have hfz6_0:=Qcu BK117.out 0;have hfz6_1:=Qcu BK117.out 1;have hfz6_2:=Qcu BK117.out 2;have hfz6_3:=Qcu BK117.out 3) |((with_reducible refine Qhd (f:=99) rfl ?_);refine Qfk (some 8) rfl rfl Tryz.func99 qq_5 rfl #[.agg #[.bool a0_0,.int .u64 a0_1,.string a0_2,.string a0_3]] rfl qq_1 ?_;(with_reducible refine(Qbl.calls a0_0 a0_1 a0_2 a0_3 t118 t121 _ A2.out).mono ?_);rintro e w7 ⟨v119,rfl,ho0,hb⟩;refine⟨_,rfl,?_⟩;have n0_:=QA (Kd.R_lower ho0 (Qea qq_b));have n1_:=QA (Qdg (g:=gb117) (o:=.cells #[.bool a0_0,.int .u64 a0_1,.string a0_2,.string a0_3] 39 (0,0)) qq_0 hb);have n2_:=QA (Qeb qq_b hb);clear BK117 HB;have HO120:=n0_;have BK117:=n1_;have HB:=n2_;clear n0_ n1_ n2_;(try clear hb);(try clear hb2);(try clear hk);(try clear hi);(try clear ho0);obtain⟨Ao8,co8,eo8⟩:=Kd.R_slice HO120.out;subst eo8) |((with_reducible refine Qhd (f:=96) rfl ?_);refine Qfk (some 15) rfl rfl Tryz.func96 qq_5 rfl #[.slice Ao8 t118.length co8] rfl qq_1 ?_;(with_reducible refine(Qax.calls _ _ t118 t122 _ ?side1 ?side2 A4.out).mono ?_);(case side1=>repeat(first|exact(Kd.R_reads' HO120.out).2.2 |(with_reducible refine Kd.C_alloc ?_ _) |(with_reducible refine Kd.C_drewN ?_ _) |(with_reducible refine Kd.C_drew ?_)));(case side2=>exact(Kd.R_reads' HO120.out).2.1);rintro e w9 ⟨v123,rfl,ho0,hb⟩;refine⟨_,rfl,?_⟩;have n0_:=QA (Kd.R_elder' qq_3 (Kd.R_base ho0) hb);have n1_:=QA (Kd.R_lower (Kd.R_new' ho0 (Kd.R_lt qq_3)) (Qea qq_b));have n2_:=QA (Qdg (g:=gb117) (o:=.cells #[.bool a0_0,.int .u64 a0_1,.string a0_2,.string a0_3] 39 (0,0)) qq_0 hb);have n3_:=QA (Qeb qq_b hb);clear HO120 BK117 HB;have HO120:=n0_;have HO124:=n1_;have BK117:=n2_;have HB:=n3_;clear n0_ n1_ n2_ n3_;(try clear hb);(try clear hb2);(try clear hk);(try clear hi);(try clear ho0)))
  go_ret2
  exact⟨_,by first|rfl |(simp[Qhh,Qhi]<;>rfl) |(simp[*,Qhh,Qhi]<;>rfl),by(with_reducible repeat(first|apply Kd.R_alloc|apply Kd.R_drewN|apply Kd.R_drew));exact Kd.R_mono HO124.out (fun _ hk=>trivial),qq_b⟩
 ·rw[if_neg c3]at H
  have c3b0:(t121 == 0)=false:=beq_eq_false_iff_ne.mpr c3
  have c3b1:(t121 != 0)=true:=bne_iff_ne.mpr c3
  simp only[Option.some.injEq,Prod.mk.injEq]at H
  obtain⟨rfl,rfl⟩:=H
  go_enter Tryz.func57,Tryz.ntmps57
  go_wp2_with (first |((with_reducible refine Qel (N:=1) rfl ?_);refine qq_e 1 #[.bool a0_0,.int .u64 a0_1,.string a0_2,.string a0_3] 39 ?_;intro gb117 hg w10 hbox hb;have n0_:=QA (Qeb qq_b hb);have n1_:=QA (hbox);have n2_:=QA (qq_s hg:w.heap.size≤gb117);have n3_:=n2_;clear HB;have HB:=n0_;have BK117:=n1_;have GW117:=n2_;have GE117:=n3_;clear n0_ n1_ n2_ n3_ hb hbox hg;have hcz11_0:=qq_c (.bool a0_0) BK117.out 0 rfl;have hcz11_1:=qq_c (.int .u64 a0_1) BK117.out 1 rfl;have hcz11_2:=qq_c (.string a0_2) BK117.out 2 rfl;have hcz11_3:=qq_c (.string a0_3) BK117.out 3 rfl;have hfz11_0:=Qcu BK117.out 0;have hfz11_1:=Qcu BK117.out 1;have hfz11_2:=Qcu BK117.out 2;have hfz11_3:=Qcu BK117.out 3) |((with_reducible refine Qhd (f:=99) rfl ?_);refine Qfk (some 8) rfl rfl Tryz.func99 qq_5 rfl #[.agg #[.bool a0_0,.int .u64 a0_1,.string a0_2,.string a0_3]] rfl qq_1 ?_;(with_reducible refine(Qbl.calls a0_0 a0_1 a0_2 a0_3 t118 t121 _ A2.out).mono ?_);rintro e w12 ⟨v119,rfl,ho0,hb⟩;refine⟨_,rfl,?_⟩;have n0_:=QA (Kd.R_lower ho0 (Qea qq_b));have n1_:=QA (Qdg (g:=gb117) (o:=.cells #[.bool a0_0,.int .u64 a0_1,.string a0_2,.string a0_3] 39 (0,0)) qq_0 hb);have n2_:=QA (Qeb qq_b hb);clear BK117 HB;have HO120:=n0_;have BK117:=n1_;have HB:=n2_;clear n0_ n1_ n2_;(try clear hb);(try clear hb2);(try clear hk);(try clear hi);(try clear ho0)))
  go_ret2
  exact⟨_,by first|rfl |(simp[Qhh,Qhi]<;>rfl) |(simp[*,Qhh,Qhi]<;>rfl),by first|exact Kd.R_nil _ _ _ _ _|exact Kd.N_nil _ _ _ _ _|exact Kd.V_nil _ _ _ _ _|exact Kd.Q_nil _ _ _ _ _|exact Kd.S_nil _ _ _ _ _,qq_b⟩
def Qbf.f(a0_0:Int)(a0_1:Int)(a1:Int):Option (Int × Int × Int × Int × Int × Int):=(Qav.f a0_0 a0_1 a1).bind fun bt108=>(if bt108.2=0 then(some (a0_0,a0_1,a1,(bt108.1.length:Int),0,0))else(some (0,0,0,0,0,bt108.2)))
theorem Qbf.calls(a0_0:Int)(a0_1:Int)(a1:Int)(r1:Int)(r2:Int)(r3:Int)(r4:Int)(r5:Int)(r6:Int)(w:World)(h:Qbf.f a0_0 a0_1 a1=some (r1,r2,r3,r4,r5,r6)) :
  Calls Tryz.prog 52 #[.agg #[.int .u8 a0_0,.int .u32 a0_1],.int .u32 a1] w fun e w'=>e=.returned (.tuple #[.agg #[.int .u8 r1,.int .u32 r2,.int .u32 r3,.int .i64 r4,.int .i64 r5],.int .i64 r6])∧Below w.heap.size w w':=by
 have hu27:=Tryz.underlying27
 have hu47:=Tryz.underlying47
 have HB:=QA (Below.refl w.heap.size w)
 have H:((Qav.f a0_0 a0_1 a1).bind fun bt108=>(if bt108.2=0 then(some (a0_0,a0_1,a1,(bt108.1.length:Int),0,0))else(some (0,0,0,0,0,bt108.2))))=some (r1,r2,r3,r4,r5,r6):=h
 clear h
 replace H:=Option.bind_eq_some_iff.mp H
 obtain⟨⟨t108,t111⟩,A30,H⟩:=H
 replace H:(if t111=0 then(some (a0_0,a0_1,a1,(t108.length:Int),0,0))else(some (0,0,0,0,0,t111)))=some (r1,r2,r3,r4,r5,r6):=H
 have A3:=QA A30
 clear A30
 by_cases c4:t111=0
 ·rw[if_pos c4]at H
  have c4b0:(t111 == 0)=true:=beq_iff_eq.mpr c4
  have c4b1:(t111 != 0)=false:=bne_eq_false_iff_eq.mpr c4
  clear c4
  simp only[Option.some.injEq,Prod.mk.injEq]at H
  obtain⟨rfl,rfl,rfl,rfl,rfl,rfl⟩:=H
  go_enter Tryz.func52,Tryz.ntmps52
  go_wp2_with (first |((with_reducible refine Qel (N:=2) rfl ?_);refine qq_e 2 #[.int .u8 a0_0,.int .u32 a0_1] 27 ?_;intro gb106 hg w5 hbox hb;have n0_:=QA (Qeb qq_b hb);have n1_:=QA (hbox);have n2_:=QA (qq_s hg:w.heap.size≤gb106);have n3_:=n2_;clear HB;have HB:=n0_;have BK106:=n1_;have GW106:=n2_;have GE106:=n3_;clear n0_ n1_ n2_ n3_;clear hb hbox hg) |((with_reducible refine Qel (N:=4) rfl ?_);refine qq_e 4 #[.int .u8 0,.int .u32 0,.int .u32 0,.int .i64 0,.int .i64 0] 47 ?_;intro gb107 hg w6 hbox hb;have n0_:=QA (Qdg (g:=gb106) (o:=.cells #[.int .u8 a0_0,.int .u32 a0_1] 27 (0,0)) qq_0 hb);have n1_:=QA (Qeb qq_b hb);have n2_:=QA (hbox);have n3_:=QA (qq_s hg:w.heap.size≤gb107);have n4_:=n3_;have n5_:=QA ((by rw[hg];exact Nat.ne_of_lt (Qcs (g:=gb106) (o:=.cells #[.int .u8 a0_0,.int .u32 a0_1] 27 (0,0)) qq_0):gb106≠gb107));have n6_:=QA ((by rw[hg];exact Nat.ne_of_gt (Qcs (g:=gb106) (o:=.cells #[.int .u8 a0_0,.int .u32 a0_1] 27 (0,0)) qq_0):gb107≠gb106));clear BK106 HB;have BK106:=n0_;have HB:=n1_;have BK107:=n2_;have GW107:=n3_;have GE107:=n4_;have NB106_107:=n5_;have NB107_106:=n6_;clear n0_ n1_ n2_ n3_ n4_ n5_ n6_ hb hbox hg;have hnb7:=NB106_107.out;have hnc7:=NB107_106.out;have hcz8_0:=qq_c (.int .u8 a0_0) BK106.out 0 rfl;have hcz8_1:=qq_c (.int .u32 a0_1) BK106.out 1 rfl;have hfz8_0:=Qcu BK106.out 0;have hfz8_1:=Qcu BK106.out 1) |((with_reducible refine Qhd (f:=53) rfl ?_);refine Qfk (some 11) rfl rfl Tryz.func53 qq_5 rfl #[.agg #[.int .u8 a0_0,.int .u32 a0_1],.int .u32 a1] rfl qq_1 ?_;(with_reducible refine(Qav.calls a0_0 a0_1 a1 t108 t111 _ A3.out).mono ?_);rintro e w9 ⟨v109,rfl,ho0,hb⟩;refine⟨_,rfl,?_⟩;have n0_:=QA (Kd.R_lower ho0 (Qea qq_b));have n1_:=QA (Qdg (g:=gb106) (o:=.cells #[.int .u8 a0_0,.int .u32 a0_1] 27 (0,0)) qq_0 hb);have n2_:=QA (Qdg (g:=gb107) (o:=.cells #[.int .u8 0,.int .u32 0,.int .u32 0,.int .i64 0,.int .i64 0] 47 (0,0)) qq_0 hb);have n3_:=QA (Qeb qq_b hb);clear BK106 BK107 HB;have HO110:=n0_;have BK106:=n1_;have BK107:=n2_;have HB:=n3_;clear n0_ n1_ n2_ n3_;(try clear hb);(try clear hb2);(try clear hk);(try clear hi);(try clear ho0);have hcz10_0:=qq_c (.int .u8 a0_0) BK106.out 0 rfl;have hcz10_1:=qq_c (.int .u32 a0_1) BK106.out 1 rfl;have hfz10_0:=Qcu BK106.out 0;have hfz10_1:=Qcu BK106.out 1;obtain⟨Ao11,co11,eo11⟩:=Kd.R_slice HO110.out;subst eo11;have hcz12_0:=qq_c (.int .u8 0) BK107.out 0 rfl;have hcz12_1:=qq_c (.int .u32 0) BK107.out 1 rfl;have hcz12_2:=qq_c (.int .u32 0) BK107.out 2 rfl;have hcz12_3:=qq_c (.int .i64 0) BK107.out 3 rfl;have hcz12_4:=qq_c (.int .i64 0) BK107.out 4 rfl;have hfz12_0:=Qcu BK107.out 0;have hfz12_1:=Qcu BK107.out 1;have hfz12_2:=Qcu BK107.out 2;have hfz12_3:=Qcu BK107.out 3;have hfz12_4:=Qcu BK107.out 4))
  refine bodyPost_ret (Qdi rfl _ _ gb107 47 #[.int .u8 a0_0,.int .u32 a0_1,.int .u32 a1,.int .i64 (t108.length:Int),.int .i64 0] (0,0) _ rfl (by(with_reducible repeat(first|apply Qdf|apply Qde|apply Qdd));refine Qeg (cs:=#[.int .u8 a0_0,.int .u32 a0_1,.int .u32 a1,.int .i64 (t108.length:Int),.int .i64 0]) ?_ 4 _ rfl;(with_reducible repeat(first|apply Qdf|apply Qde|apply Qdd));refine Qeg (cs:=#[.int .u8 a0_0,.int .u32 a0_1,.int .u32 a1,.int .i64 0,.int .i64 0]) ?_ 3 _ rfl;(with_reducible repeat(first|apply Qdf|apply Qde|apply Qdd));refine Qeg (cs:=#[.int .u8 a0_0,.int .u32 a0_1,.int .u32 0,.int .i64 0,.int .i64 0]) ?_ 2 _ rfl;(with_reducible repeat(first|apply Qdf|apply Qde|apply Qdd));refine Qeg (cs:=#[.int .u8 a0_0,.int .u32 0,.int .u32 0,.int .i64 0,.int .i64 0]) ?_ 1 _ rfl;(with_reducible repeat(first|apply Qdf|apply Qde|apply Qdd));refine Qeg (cs:=#[.int .u8 0,.int .u32 0,.int .u32 0,.int .i64 0,.int .i64 0]) ?_ 0 _ rfl;(with_reducible repeat(first|apply Qdf|apply Qde|apply Qdd));exact BK107.out) Tryz.underlying47 rfl qq_5) rfl ?_
  exact⟨by first|rfl |(simp[Qhh,Qhi]<;>rfl) |(simp[*,Qhh,Qhi]<;>rfl),qq_b⟩
 ·rw[if_neg c4]at H
  have c4b0:(t111 == 0)=false:=beq_eq_false_iff_ne.mpr c4
  have c4b1:(t111 != 0)=true:=bne_iff_ne.mpr c4
  simp only[Option.some.injEq,Prod.mk.injEq]at H
  obtain⟨rfl,rfl,rfl,rfl,rfl,rfl⟩:=H
  go_enter Tryz.func52,Tryz.ntmps52
  go_wp2_with (first |((with_reducible refine Qel (N:=2) rfl ?_);refine qq_e 2 #[.int .u8 a0_0,.int .u32 a0_1] 27 ?_;intro gb106 hg w13 hbox hb;have n0_:=QA (Qeb qq_b hb);have n1_:=QA (hbox);have n2_:=QA (qq_s hg:w.heap.size≤gb106);have n3_:=n2_;clear HB;have HB:=n0_;have BK106:=n1_;have GW106:=n2_;have GE106:=n3_;clear n0_ n1_ n2_ n3_;clear hb hbox hg) |((with_reducible refine Qel (N:=4) rfl ?_);refine qq_e 4 #[.int .u8 0,.int .u32 0,.int .u32 0,.int .i64 0,.int .i64 0] 47 ?_;intro gb107 hg w14 hbox hb;have n0_:=QA (Qdg (g:=gb106) (o:=.cells #[.int .u8 a0_0,.int .u32 a0_1] 27 (0,0)) qq_0 hb);have n1_:=QA (Qeb qq_b hb);have n2_:=QA (hbox);have n3_:=QA (qq_s hg:w.heap.size≤gb107);have n4_:=n3_;have n5_:=QA ((by rw[hg];exact Nat.ne_of_lt (Qcs (g:=gb106) (o:=.cells #[.int .u8 a0_0,.int .u32 a0_1] 27 (0,0)) qq_0):gb106≠gb107));have n6_:=QA ((by rw[hg];exact Nat.ne_of_gt (Qcs (g:=gb106) (o:=.cells #[.int .u8 a0_0,.int .u32 a0_1] 27 (0,0)) qq_0):gb107≠gb106));clear BK106 HB;have BK106:=n0_;have HB:=n1_;have BK107:=n2_;have GW107:=n3_;have GE107:=n4_;have NB106_107:=n5_;have NB107_106:=n6_;clear n0_ n1_ n2_ n3_ n4_ n5_ n6_ hb hbox hg;have hnb15:=NB106_107.out;have hnc15:=NB107_106.out;have hcz16_0:=qq_c (.int .u8 a0_0) BK106.out 0 rfl;have hcz16_1:=qq_c (.int .u32 a0_1) BK106.out 1 rfl;have hfz16_0:=Qcu BK106.out 0;have hfz16_1:=Qcu BK106.out 1) |((with_reducible refine Qhd (f:=53) rfl ?_);refine Qfk (some 11) rfl rfl Tryz.func53 qq_5 rfl #[.agg #[.int .u8 a0_0,.int .u32 a0_1],.int .u32 a1] rfl qq_1 ?_;(with_reducible refine(Qav.calls a0_0 a0_1 a1 t108 t111 _ A3.out).mono ?_);rintro e w17 ⟨v109,rfl,ho0,hb⟩;refine⟨_,rfl,?_⟩;have n0_:=QA (Kd.R_lower ho0 (Qea qq_b));have n1_:=QA (Qdg (g:=gb106) (o:=.cells #[.int .u8 a0_0,.int .u32 a0_1] 27 (0,0)) qq_0 hb);have n2_:=QA (Qdg (g:=gb107) (o:=.cells #[.int .u8 0,.int .u32 0,.int .u32 0,.int .i64 0,.int .i64 0] 47 (0,0)) qq_0 hb);have n3_:=QA (Qeb qq_b hb);clear BK106 BK107 HB;have HO110:=n0_;have BK106:=n1_;have BK107:=n2_;have HB:=n3_;clear n0_ n1_ n2_ n3_;(try clear hb);(try clear hb2);(try clear hk);(try clear hi);(try clear ho0);have hcz18_0:=qq_c (.int .u8 0) BK107.out 0 rfl;have hcz18_1:=qq_c (.int .u32 0) BK107.out 1 rfl;have hcz18_2:=qq_c (.int .u32 0) BK107.out 2 rfl;have hcz18_3:=qq_c (.int .i64 0) BK107.out 3 rfl;have hcz18_4:=qq_c (.int .i64 0) BK107.out 4 rfl;have hfz18_0:=Qcu BK107.out 0;have hfz18_1:=Qcu BK107.out 1;have hfz18_2:=Qcu BK107.out 2;have hfz18_3:=Qcu BK107.out 3;have hfz18_4:=Qcu BK107.out 4))
  refine bodyPost_ret (Qdi rfl _ _ gb107 47 #[.int .u8 0,.int .u32 0,.int .u32 0,.int .i64 0,.int .i64 0] (0,0) _ rfl (by(with_reducible repeat(first|apply Qdf|apply Qde|apply Qdd));refine Qeg (cs:=#[.int .u8 0,.int .u32 0,.int .u32 0,.int .i64 0,.int .i64 0]) ?_ 4 _ rfl;(with_reducible repeat(first|apply Qdf|apply Qde|apply Qdd));refine Qeg (cs:=#[.int .u8 0,.int .u32 0,.int .u32 0,.int .i64 0,.int .i64 0]) ?_ 3 _ rfl;(with_reducible repeat(first|apply Qdf|apply Qde|apply Qdd));refine Qeg (cs:=#[.int .u8 0,.int .u32 0,.int .u32 0,.int .i64 0,.int .i64 0]) ?_ 2 _ rfl;(with_reducible repeat(first|apply Qdf|apply Qde|apply Qdd));refine Qeg (cs:=#[.int .u8 0,.int .u32 0,.int .u32 0,.int .i64 0,.int .i64 0]) ?_ 1 _ rfl;(with_reducible repeat(first|apply Qdf|apply Qde|apply Qdd));refine Qeg (cs:=#[.int .u8 0,.int .u32 0,.int .u32 0,.int .i64 0,.int .i64 0]) ?_ 0 _ rfl;(with_reducible repeat(first|apply Qdf|apply Qde|apply Qdd));exact BK107.out) Tryz.underlying47 rfl qq_5) rfl ?_
  exact⟨by first|rfl |(simp[Qhh,Qhi]<;>rfl) |(simp[*,Qhh,Qhi]<;>rfl),qq_b⟩
def Qbk.f(a0_0:Int)(a0_1:Int)(a1:Int):Option (Bool):=(Qbf.f a0_0 a0_1 ((a0_1-1)%4294967296)).bind fun bt134=>(if bt134.2.2.2.2.2=0 then((Qbh.f bt134.1 bt134.2.1 bt134.2.2.1 bt134.2.2.2.1 bt134.2.2.2.2.1 a1).bind fun t141=>(some (!t141)))else(some true))
theorem Qbk.calls(a0_0:Int)(a0_1:Int)(a1:Int)(r:Bool)(w:World)(h:Qbk.f a0_0 a0_1 a1=some r) :
  Calls Tryz.prog 58 #[.agg #[.int .u8 a0_0,.int .u32 a0_1],.int .i64 a1] w fun e w'=>e=.returned (.bool r)∧Below w.heap.size w w':=by
 have hu27:=Tryz.underlying27
 have hu47:=Tryz.underlying47
 have HB:=QA (Below.refl w.heap.size w)
 have H:((Qbf.f a0_0 a0_1 ((a0_1-1)%4294967296)).bind fun bt134=>(if bt134.2.2.2.2.2=0 then((Qbh.f bt134.1 bt134.2.1 bt134.2.2.1 bt134.2.2.2.1 bt134.2.2.2.2.1 a1).bind fun t141=>(some (!t141)))else(some true)))=some r:=h
 clear h
 replace H:=Option.bind_eq_some_iff.mp H
 obtain⟨⟨t134,t135,t136,t137,t138,t139⟩,A30,H⟩:=H
 replace H:(if t139=0 then((Qbh.f t134 t135 t136 t137 t138 a1).bind fun t141=>(some (!t141)))else(some true))=some r:=H
 have A3:=QA A30
 clear A30
 by_cases c4:t139=0
 ·rw[if_pos c4]at H
  have c4b0:(t139 == 0)=true:=beq_iff_eq.mpr c4
  have c4b1:(t139 != 0)=false:=bne_eq_false_iff_eq.mpr c4
  clear c4
  replace H:=Option.bind_eq_some_iff.mp H
  obtain⟨t141,A50,H⟩:=H
  replace H:(some (!t141))=some r:=H
  have A5:=QA A50
  clear A50
  obtain rfl:=Option.some.inj H
  go_enter Tryz.func58,Tryz.ntmps58
  go_wp2_with (first |((with_reducible refine Qel (N:=2) rfl ?_);refine qq_e 2 #[.int .u8 a0_0,.int .u32 a0_1] 27 ?_;intro gb133 hg w6 hbox hb;have n0_:=QA (Qeb qq_b hb);have n1_:=QA (hbox);have n2_:=QA (qq_s hg:w.heap.size≤gb133);have n3_:=n2_;clear HB;have HB:=n0_;have BK133:=n1_;have GW133:=n2_;have GE133:=n3_;clear n0_ n1_ n2_ n3_ hb hbox hg;have hcz7_0:=qq_c (.int .u8 a0_0) BK133.out 0 rfl;have hcz7_1:=qq_c (.int .u32 a0_1) BK133.out 1 rfl;have hfz7_0:=Qcu BK133.out 0;have hfz7_1:=Qcu BK133.out 1) |((with_reducible refine Qhd (f:=52) rfl ?_);refine Qfk (some 12) rfl rfl Tryz.func52 qq_5 rfl #[.agg #[.int .u8 a0_0,.int .u32 a0_1],.int .u32 ((a0_1-1)%4294967296)] rfl qq_1 ?_;(with_reducible refine(Qbf.calls a0_0 a0_1 ((a0_1-1)%4294967296) t134 t135 t136 t137 t138 t139 _ A3.out).mono ?_);rintro e w8 ⟨rfl,hb⟩;refine⟨_,rfl,?_⟩;have n0_:=QA (Qdg (g:=gb133) (o:=.cells #[.int .u8 a0_0,.int .u32 a0_1] 27 (0,0)) qq_0 hb);have n1_:=QA (Qeb qq_b hb);clear BK133 HB;have BK133:=n0_;have HB:=n1_;clear n0_ n1_;(try clear hb);(try clear hb2);(try clear hk);(try clear hi)) |((with_reducible refine Qel (N:=5) rfl ?_);refine qq_e 5 #[.int .u8 0,.int .u32 0,.int .u32 0,.int .i64 0,.int .i64 0] 47 ?_;intro gb140 hg w9 hbox hb;have n0_:=QA (Qdg (g:=gb133) (o:=.cells #[.int .u8 a0_0,.int .u32 a0_1] 27 (0,0)) qq_0 hb);have n1_:=QA (Qeb qq_b hb);have n2_:=QA (hbox);have n3_:=QA (qq_s hg:w.heap.size≤gb140);have n4_:=n3_;have n5_:=QA ((by rw[hg];exact Nat.ne_of_lt (Qcs (g:=gb133) (o:=.cells #[.int .u8 a0_0,.int .u32 a0_1] 27 (0,0)) qq_0):gb133≠gb140));have n6_:=QA ((by rw[hg];exact Nat.ne_of_gt (Qcs (g:=gb133) (o:=.cells #[.int .u8 a0_0,.int .u32 a0_1] 27 (0,0)) qq_0):gb140≠gb133));clear BK133 HB;have BK133:=n0_;have HB:=n1_;have BK140:=n2_;have GW140:=n3_;have GE140:=n4_;have NB133_140:=n5_;have NB140_133:=n6_;clear n0_ n1_ n2_ n3_ n4_ n5_ n6_ hb hbox hg;have hnb10:=NB140_133.out;have hnc10:=NB133_140.out;have hcz11_0:=qq_c (.int .u8 0) BK140.out 0 rfl;have hcz11_1:=qq_c (.int .u32 0) BK140.out 1 rfl;have hcz11_2:=qq_c (.int .u32 0) BK140.out 2 rfl;have hcz11_3:=qq_c (.int .i64 0) BK140.out 3 rfl;have hcz11_4:=qq_c (.int .i64 0) BK140.out 4 rfl;have hfz11_0:=Qcu BK140.out 0;have hfz11_1:=Qcu BK140.out 1;have hfz11_2:=Qcu BK140.out 2;have hfz11_3:=Qcu BK140.out 3;have hfz11_4:=Qcu BK140.out 4) |(go_at_call 100;(with_reducible refine(Qbh.calls t134 t135 t136 t137 t138 a1 t141 _ A5.out).mono ?_);rintro e w12 ⟨rfl,hb⟩;have n0_:=QA (Qdg (g:=gb133) (o:=.cells #[.int .u8 a0_0,.int .u32 a0_1] 27 (0,0)) qq_7 hb);have n1_:=QA (Qdg (g:=gb140) (o:=.cells #[.int .u8 t134,.int .u32 t135,.int .u32 t136,.int .i64 t137,.int .i64 t138] 47 (0,0)) (by(with_reducible repeat(first|apply Qdf|apply Qde|apply Qdd));refine Qeg (cs:=#[.int .u8 t134,.int .u32 t135,.int .u32 t136,.int .i64 t137,.int .i64 0]) ?_ 4 _ rfl;(with_reducible repeat(first|apply Qdf|apply Qde|apply Qdd));refine Qeg (cs:=#[.int .u8 t134,.int .u32 t135,.int .u32 t136,.int .i64 0,.int .i64 0]) ?_ 3 _ rfl;(with_reducible repeat(first|apply Qdf|apply Qde|apply Qdd));refine Qeg (cs:=#[.int .u8 t134,.int .u32 t135,.int .u32 0,.int .i64 0,.int .i64 0]) ?_ 2 _ rfl;(with_reducible repeat(first|apply Qdf|apply Qde|apply Qdd));refine Qeg (cs:=#[.int .u8 t134,.int .u32 0,.int .u32 0,.int .i64 0,.int .i64 0]) ?_ 1 _ rfl;(with_reducible repeat(first|apply Qdf|apply Qde|apply Qdd));refine Qeg (cs:=#[.int .u8 0,.int .u32 0,.int .u32 0,.int .i64 0,.int .i64 0]) ?_ 0 _ rfl;(with_reducible repeat(first|apply Qdf|apply Qde|apply Qdd));exact BK140.out) hb);have n2_:=QA (Qeb qq_b hb);clear BK133 BK140 HB;have BK133:=n0_;have BK140:=n1_;have HB:=n2_;clear n0_ n1_ n2_;(try clear hb);(try clear hb2);(try clear hk);(try clear hi)))
  go_ret
  exact⟨by first|rfl |(simp[Qhh,Qhi]<;>rfl) |(simp[*,Qhh,Qhi]<;>rfl),qq_b⟩
 ·rw[if_neg c4]at H
  have c4b0:(t139 == 0)=false:=beq_eq_false_iff_ne.mpr c4
  have c4b1:(t139 != 0)=true:=bne_iff_ne.mpr c4
  obtain rfl:=Option.some.inj H
  go_enter Tryz.func58,Tryz.ntmps58
  go_wp2_with (first |((with_reducible refine Qel (N:=2) rfl ?_);refine qq_e 2 #[.int .u8 a0_0,.int .u32 a0_1] 27 ?_;intro gb133 hg w13 hbox hb;have n0_:=QA (Qeb qq_b hb);have n1_:=QA (hbox);have n2_:=QA (qq_s hg:w.heap.size≤gb133);have n3_:=n2_;clear HB;have HB:=n0_;have BK133:=n1_;have GW133:=n2_;have GE133:=n3_;clear n0_ n1_ n2_ n3_ hb hbox hg;have hcz14_0:=qq_c (.int .u8 a0_0) BK133.out 0 rfl;have hcz14_1:=qq_c (.int .u32 a0_1) BK133.out 1 rfl;have hfz14_0:=Qcu BK133.out 0;have hfz14_1:=Qcu BK133.out 1) |((with_reducible refine Qhd (f:=52) rfl ?_);refine Qfk (some 12) rfl rfl Tryz.func52 qq_5 rfl #[.agg #[.int .u8 a0_0,.int .u32 a0_1],.int .u32 ((a0_1-1)%4294967296)] rfl qq_1 ?_;(with_reducible refine(Qbf.calls a0_0 a0_1 ((a0_1-1)%4294967296) t134 t135 t136 t137 t138 t139 _ A3.out).mono ?_);rintro e w15 ⟨rfl,hb⟩;refine⟨_,rfl,?_⟩;have n0_:=QA (Qdg (g:=gb133) (o:=.cells #[.int .u8 a0_0,.int .u32 a0_1] 27 (0,0)) qq_0 hb);have n1_:=QA (Qeb qq_b hb);clear BK133 HB;have BK133:=n0_;have HB:=n1_;clear n0_ n1_;(try clear hb);(try clear hb2);(try clear hk);(try clear hi)) |((with_reducible refine Qel (N:=5) rfl ?_);refine qq_e 5 #[.int .u8 0,.int .u32 0,.int .u32 0,.int .i64 0,.int .i64 0] 47 ?_;intro gb140 hg w16 hbox hb;have n0_:=QA (Qdg (g:=gb133) (o:=.cells #[.int .u8 a0_0,.int .u32 a0_1] 27 (0,0)) qq_0 hb);have n1_:=QA (Qeb qq_b hb);have n2_:=QA (hbox);have n3_:=QA (qq_s hg:w.heap.size≤gb140);have n4_:=n3_;have n5_:=QA ((by rw[hg];exact Nat.ne_of_lt (Qcs (g:=gb133) (o:=.cells #[.int .u8 a0_0,.int .u32 a0_1] 27 (0,0)) qq_0):gb133≠gb140));have n6_:=QA ((by rw[hg];exact Nat.ne_of_gt (Qcs (g:=gb133) (o:=.cells #[.int .u8 a0_0,.int .u32 a0_1] 27 (0,0)) qq_0):gb140≠gb133));clear BK133 HB;have BK133:=n0_;have HB:=n1_;have BK140:=n2_;have GW140:=n3_;have GE140:=n4_;have NB133_140:=n5_;have NB140_133:=n6_;clear n0_ n1_ n2_ n3_ n4_ n5_ n6_ hb hbox hg;have hnb17:=NB140_133.out;have hnc17:=NB133_140.out;have hcz18_0:=qq_c (.int .u8 0) BK140.out 0 rfl;have hcz18_1:=qq_c (.int .u32 0) BK140.out 1 rfl;have hcz18_2:=qq_c (.int .u32 0) BK140.out 2 rfl;have hcz18_3:=qq_c (.int .i64 0) BK140.out 3 rfl;have hcz18_4:=qq_c (.int .i64 0) BK140.out 4 rfl;have hfz18_0:=Qcu BK140.out 0;have hfz18_1:=Qcu BK140.out 1;have hfz18_2:=Qcu BK140.out 2;have hfz18_3:=Qcu BK140.out 3;have hfz18_4:=Qcu BK140.out 4))
  go_ret
  exact⟨by first|rfl |(simp[Qhh,Qhi]<;>rfl) |(simp[*,Qhh,Qhi]<;>rfl),qq_b⟩
end Go.Proofs.YtnnofopfbeklbaaGreat.C
end
