/- Texts of this claim's author and of the print of its functions, merged by merge.py. -/
import Derived.Test.YtnnofopfbeklbaaGreatMH02
import Derived.Test.YtnnofopfbeklbaaGreatMH11
import Derived.Test.YtnnofopfbeklbaaGreatMH19
import Derived.Test.YtnnofopfbeklbaaGreatMH12
import Derived.Test.YtnnofopfbeklbaaGreatMH04
import Derived.OpenShut
import Derived.Test.YtnnofopfbeklbaaGreatMH14
import Derived.Laws.Bits64b
set_option linter.unusedVariables false
set_option linter.unusedSimpArgs false
set_option maxHeartbeats 8000000
set_option maxRecDepth 100000
section
namespace Go.Proofs.YtnnofopfbeklbaaGreat.C
open Go.RowKit Go.Proofs.YtnnofopfbeklbaaGreatW.PrintWords Go.Proofs.YtnnofopfbeklbaaGreatW.PrintLast Go.Proofs.YtnnofopfbeklbaaGreatW.PrintMore
theorem Qld:((List.range 256).all fun a=>Go.bits .or .u8 (a:Int) 128 == (a:Int)%128+128)=true:=by kernel_rfl
theorem or128(a:Int)(h0:0≤a)(h1:a<256):Go.bits .or .u8 a 128=a%128+128:=by
 have h:=List.all_eq_true.1 Qld a.toNat (List.mem_range.2 (by omega))
 have e:((a.toNat:Nat):Int)=a:=by omega
 rw[e]at h
 exact eq_of_beq h
def vput:Nat→Int→List Int
 | 0,x=>[x]
 | n+1,x=>if x<128 then [x]else(x%128+128) :: vput n (x/128)
theorem Qle:∀(n:Nat) (x:Int),(vput n x).length≤n+1
 | 0,_=>by simp[vput]
 | n+1,x=>by
  unfold vput
  have:=Qle n (x/128)
  split<;>simp<;>omega
theorem Qlf(b g:Nat)(x:Int)(xs:List Int)(w:World)(hx0:0≤x)(hx1:x<18446744073709551616)(hbg:b≤g)(hbw:b≤w.heap.size)(hI:IsBuf w b g xs)(hl:xs.length+10≤140737488355328) :
  Calls Tryz.prog 95 #[.pointer (some ⟨g,0,none⟩),.int .u64 x] w fun e w'=>(∃v,e=.returned v)∧IsBuf w' b g (xs++vput 9 x)∧Bw b g w w':=by
 have HI:=QA hI
 clear hI
 go_enter Tryz.func95,Tryz.ntmps95
 go_wp2
 go_loopw [1] (fun v1 wr=>∃(k:Nat) (ys:List Int) (xv:Int),k≤9∧ys.length=k∧v1=.int .u64 xv∧0≤xv∧xv<2^(64-7*k)∧Aside0 (vput 9 x=ys++vput (9-k) xv)∧Aside0 (IsBuf wr b g (xs++ys))∧Aside0 (Bw b g w wr))
  (fun v1 _=>(intOf v1).toNat)
 case atStart=>exact⟨0,[],x,by omega,rfl,rfl,hx0,by simpa using hx1,⟨rfl⟩,⟨by simpa using HI.out⟩,⟨Bw.refl _ _ _⟩⟩
 case round =>
  obtain⟨k,ys,xv,hk,hys,rfl,hx2,hx3,HL,HB,HW⟩:=hrel
  have hx4:xv<18446744073709551616:=by
   have:(2:Int)^(64-7*k)≤2^64:=by exact_mod_cast Nat.pow_le_pow_right (by decide) (by omega)
   omega
  by_cases hlt:128≤xv
  ·have hk9:k<9:=by
    by_cases e:k<9
    ·exact e
    ·obtain rfl:k=9:=by omega
     simp at hx3
     omega
   have hor:=or128 (xv%256) (by omega) (by omega)
   have hm:(xv%256)%128=xv%128:=by omega
   rw[hm]at hor
   have hx5:xv/128<2^(64-7*(k+1)):=by
    have e:(2:Int)^(64-7*k)=2^(64-7*(k+1))*128:=by
     rw[show 64-7*k=(64-7*(k+1))+7 by omega,Int.pow_add]
     rfl
    rw[e]at hx3
    exact Int.ediv_lt_of_lt_mul (by decide) hx3
   have HX5:=QA hx5
   clear hx3 hx5
   go_wp2_with (go_at_call 94;(try rw[hor]);refine(Qjq b g (xv%128+128) (xs++ys) _ (by omega) (by omega) hbg (Nat.le_trans hbw HW.out.size) HB.out (by simp;omega)).mono ?_;rintro e w1 ⟨rfl,hd,hb1⟩;have HI1:=QA hd;have HB1:=QA (HW.out.trans hb1);clear hd hb1)
   go_roundw
   case rel=>exact⟨k+1,ys++[xv%128+128],xv/128,by omega,by simp[hys],by go_num,by omega,HX5.out,⟨by
    rw[HL.out,show 9-k=(9-(k+1))+1 by omega,vput,if_neg (by omega)];simp⟩,⟨by rw[← List.append_assoc];exact HI1.out⟩,⟨HB1.out⟩⟩
   case measure=>simp[intOf];omega
  ·have hxm:xv%256=xv:=by omega
   go_wp2_with (go_at_call 94;(try rw[hxm]);refine(Qjq b g xv (xs++ys) _ (by omega) (by omega) hbg (Nat.le_trans hbw HW.out.size) HB.out (by simp;omega)).mono ?_;rintro e w1 ⟨rfl,hd,hb1⟩;have HI1:=QA hd;have HB1:=QA (HW.out.trans hb1);clear hd hb1)
   go_end0
   refine⟨⟨_,rfl⟩,?_,HB1.out⟩
   have e:vput (9-k) xv=[xv]:=by
    cases h:9-k with
    | zero=>rfl
    | succ m=>rw[vput,if_pos (by omega)]
   rw[HL.out,e,← List.append_assoc]
   exact HI1.out
theorem bytes_C(W:World)(s:ByteArray)(hs:s.size≤9223372036854775807):Kd.C (Kd.int .u8) (Lib.bytesWorld W 5 s) (some ⟨W.heap.size,0,none⟩) s.size (bytesOf s) :=
 Kd.C_of_reads (d:=(0:Int)) (Qdi W 5 s hs)
theorem Qml{l:List Int}{k:Nat}(h:k<l.length):l.take (k+1)=l.take k++[rd l (k:Int)]:=by
 unfold rd
 rw[List.take_add_one,List.getElem?_eq_getElem h,List.getD_eq_getElem?_getD]
 simp[List.getElem?_eq_getElem h]
theorem Qlh(l:List Int):(l.flatMap (fun x=>leb x 8)).length=8*l.length:=by
 induction l with
 | nil=>rfl
 | cons a l ih=>simp[Qjl,ih];omega
def ent(x:S117):List Int:=leb x.f0 8++leb x.f1 4
theorem Qli(l:List S117):(l.flatMap ent).length=12*l.length:=by
 induction l with
 | nil=>rfl
 | cons a l ih=>simp[ent,Qjl,ih];omega
theorem Qmc(a0:Int)(A1:Option Addr)(c1:Nat)(l1:List Int)(w:World)(hr1:Kd.C (Kd.int .u8) w A1 l1.length l1)(hl:l1.length≤140737488355328) :
  Calls Tryz.prog 101 #[.int .u64 a0,.slice A1 l1.length c1] w fun e w'=>e=.returned (.int .u64 (Qma a0 l1))∧Below w.heap.size w w':=by
 go_enter Tryz.func101,Tryz.ntmps101
 go_wp2_with (first |(go_at_call 155;refine(st_New a0 w).mono ?_;rintro e w1 ⟨rfl,⟨rv,hv,hR⟩,hb1⟩;have hv1:StAt w1 w.heap.size a0 (IntKind.u64.wrap (IntKind.u64.wrap (a0+Q1)+Q2),IntKind.u64.wrap (a0+Q2),a0,IntKind.u64.wrap (a0-Q1)) rv 0:=hv;have hr:=Kd.C_below hr1 hb1;have hf:=Kd.far_C (0:Int) hr1 (Nat.le_refl w.heap.size)) |(go_at_call 156;refine(Qmb w.heap.size w.heap.size a0 _ rv A1 c1 l1 w1 hr hf hv1 hR (Nat.le_refl _) hb1.size hl).mono ?_;rintro e w2 ⟨rfl,⟨rv2,hv2,hR2⟩,hb2⟩) |(go_at_call 157;refine(st_Sum w.heap.size w.heap.size a0 _ rv2 _ _ w2 hv2 (Kd.Q_of_R hR2)).mono ?_;rintro e w3 ⟨rfl,hb3⟩))
 go_ret
 exact⟨rfl,(hb1.trans hb2).trans (Qjn hb3 (Nat.le_trans hb1.size hb2.size))⟩
theorem sum_of'(a0:Int)(A1:Option Addr)(c1 n:Nat)(l1:List Int)(w:World)(hn:n=l1.length)(hr1:Kd.C (Kd.int .u8) w A1 n l1)(hl:n≤140737488355328) :
  Calls Tryz.prog 101 #[.int .u64 a0,.slice A1 n c1] w fun e w'=>e=.returned (.int .u64 (Qma a0 l1))∧Below w.heap.size w w':=by
 subst hn
 exact Qmc a0 A1 c1 l1 w hr1 hl
theorem hash_of(s:ByteArray)(w:World)(hl:s.size≤140737488355328) :
  Calls Tryz.prog 60 #[.string s] w fun e w'=>e=.returned (.int .u64 (Qma 0 (bytesOf s)))∧Below w.heap.size w w':=by
 have kb:=fun W=>Qdh (P:=Tryz.prog) 9 52 5 Tryz.underlying9 Tryz.underlying52 Tryz.underlying5 s W
 have hbb:=Qdj (Below.refl w.heap.size w) (Nat.le_refl _) 5 s
 go_enter Tryz.func60,Tryz.ntmps60
 go_wp2_with (go_at_call 101;refine(sum_of' 0 _ _ s.size (bytesOf s) (Lib.bytesWorld w 5 s) (Qdf s).symm (bytes_C w s (by omega)) hl).mono ?_;rintro e w1 ⟨rfl,hb1⟩)
 go_ret
 exact⟨rfl,Qcx hbb hbb.size hb1⟩
def chk(d:Bool)(key v:ByteArray):Int:=if key.toList=([]:List UInt8)then 4 else if(key.size:Int) > 4096 then 3 else if(d && (v.toList != ([]:List UInt8)))=true then 4 else if(v.size:Int) > 1048576 then 3 else 0
theorem Qnf{d:Bool}{key v:ByteArray}(h:chk d key v=0):key.size≤4096∧v.size≤1048576:=by
 unfold chk at h
 repeat' split at h
 all_goals first|omega|skip
def Qng(d:Bool)(s:Int)(key v:ByteArray):List Int:=[if d then 3 else 2]++vput 9 s++(vput 9 key.size++bytesOf key)++(if d then []else vput 9 v.size++bytesOf v)
theorem IsBuf.new(w:World)(b:Nat):IsBuf (w.alloc (.cells #[.slice none 0 0] 167)) b w.heap.size []:=⟨_,Qei w _,Kd.R_nil _ _ _ _ _⟩
theorem box4{W:World}{B:Nat}{d:Bool}{s:Int}{key v:ByteArray}(h:W.heap[B]? = some (.cells #[.bool d,.int .u64 s,.string key,.string v] 39 (0,0))) :
  W.cell? ⟨B,0,none⟩=some (.bool d)∧W.cell? ⟨B,1,none⟩=some (.int .u64 s)∧W.cell? ⟨B,2,none⟩=some (.string key)∧W.cell? ⟨B,3,none⟩=some (.string v) :=
 ⟨(Qds h 0).trans rfl,(Qds h 1).trans rfl,(Qds h 2).trans rfl,(Qds h 3).trans rfl⟩
theorem Qnh(x:Int):0≤IntKind.u64.wrap x∧IntKind.u64.wrap x<18446744073709551616:=by
 simp[IntKind.wrap,IntKind.signed,IntKind.bits]
 omega
theorem Qni(op:BinOp)(x y:Int):0≤Go.bits op .u64 x y∧Go.bits op .u64 x y<18446744073709551616:=by
 unfold Go.bits
 split<;>exact Qnh _
theorem Qnj(sd:Int)(l:List Int):0≤Qma sd l∧Qma sd l<18446744073709551616:=by
 unfold Qma sumP finP
 split<;>exact Qni _ _ _
def Qnk(b:List Int):List Int:=Qkw (b++leb (Qma 0 b) 8)++[0]
theorem Qnl:∀(n:Nat) (b:List Int),b.length≤n→(Qkw b).length≤2*b.length+1
 | n,b,h=>by
  rcases Int.lt_or_le (ixOf (b.take 254) 0) 0 with h0|h0
  ·by_cases hl:254<b.length
   ·rw[Qla h0 hl]
    have hd:(b.drop 254).length<b.length:=by rw[List.length_drop];omega
    cases n with
    | zero=>omega
    | succ n =>
     have:=Qnl n (b.drop 254) (by omega)
     simp only[List.length_cons,List.length_append,List.length_take,List.length_drop]at this ⊢
     omega
   ·rw[Qlb h0 hl]
    simp
    omega
  ·obtain⟨p,hp⟩:=Int.eq_ofNat_of_zero_le h0
   have h1:=(Qku (b.take 254) 0).2
   rw[hp,List.length_take]at h1
   rw[Qkz hp]
   cases n with
   | zero=>omega
   | succ n =>
    have:=Qnl n (b.drop (p+1)) qq_19
    simp only[List.length_cons,List.length_append,List.length_take,List.length_drop]at this ⊢
    omega
theorem R8.reads{W:World}{b:Nat}{v:Value}{xs:List Int}(h:R8 W b v xs):∃A n c,v=.slice A n c∧Aside0 (n=xs.length)∧n≤c∧Kd.C (Kd.int .u8) W A n xs:=by
 obtain⟨A,c,e,h1,h2⟩:=Kd.R_reads h
 exact⟨A,_,c,e,⟨rfl⟩,h1,h2⟩
theorem Qnm(A:Option Addr)(n c:Nat)(l:List Int)(w:World)(hC:Kd.C (Kd.int .u8) w A n l)(hc:n≤c)(hl:l.length≤35184372088832) :
  Calls Tryz.prog 152 #[.slice A n c] w fun e w'=>∃v0_:Value,e=.returned (v0_)∧R8 w' w.heap.size v0_ (Qkw l)∧Below w.heap.size w w':=by
 have hn:=hC.1
 subst hn
 exact Qlc A c l w hC hc hl
theorem Qnn(l:List Int):([]++l++leb (Qma 0 l) 8).length=l.length+8:=by simp[Qjl]
theorem seal_of(A0:Option Addr)(c0:Nat)(l0:List Int)(w:World)(hr0:Kd.C (Kd.int .u8) w A0 l0.length l0)(hl:l0.length≤35184372088824) :
  Calls Tryz.prog 96 #[.slice A0 l0.length c0] w fun e w'=>∃v0_:Value,e=.returned (v0_)∧R8 w' w.heap.size v0_ (Qnk l0)∧Below w.heap.size w w':=by
 have hI0:=QA (IsBuf.new w w.heap.size)
 have hb0:Below w.heap.size w (w.alloc (.cells #[.slice none 0 0] 167)):=Qcu (Below.refl _ _) _
 have hz0:w.heap.size≤(w.alloc (.cells #[.slice none 0 0] 167)).heap.size:=hb0.size
 have hC0:=Kd.C_below hr0 hb0
 have hh:=Qnj 0 l0
 go_enter Tryz.func96,Tryz.ntmps96
 go_wp2_with (first
  |(go_at_call 150;refine(buf_Raw w.heap.size w.heap.size A0 c0 l0 [] _ hC0 (Nat.le_refl _) hz0 hI0.out (by simp;omega)).mono ?_;rintro e w1 ⟨rfl,hI1,hb1⟩;have hC1:=Kd.C_below hr0 (hb0.trans hb1.1))
  |(go_at_call 101;refine(Qmc 0 A0 c0 l0 w1 hC1 (by omega)).mono ?_;rintro e w2 ⟨rfl,hb2⟩;have hI2:=hI1.kept hb2)
  |(go_at_call 151;refine(Qjr w.heap.size w.heap.size _ _ w2 hh.1 hh.2 (Nat.le_refl _) (Nat.le_trans (Nat.le_trans hz0 hb1.size) hb2.size) hI2 (by simp;omega)).mono ?_;rintro e w3 ⟨rfl,hI3,hb3⟩)
  |(go_at_call 97;refine(Qjs w.heap.size w.heap.size _ w3 hI3 (by rw[Qnn];omega)).mono ?_;rintro e w4 ⟨v4,rfl,hR4,hb4⟩;obtain⟨A4,n4,c4,rfl,hn4,hlc4,hC4⟩:=R8.reads hR4)
  |(go_at_call 152;refine(Qnm A4 n4 c4 _ w4 hC4 hlc4 (by rw[Qnn];omega)).mono ?_;rintro e w5 ⟨v5,rfl,hR5,hb5⟩;have HR5:=QA hR5;have hz5:w.heap.size≤w5.heap.size:=Nat.le_trans (Nat.le_trans (Nat.le_trans (Nat.le_trans (Nat.le_trans hz0 hb1.size) hb2.size) hb3.size) hb4.size) hb5.size;have hB5:=QA (show Below w.heap.size w w5 from((((hb0.trans hb1.1).trans (Qjn hb2 (Nat.le_trans hz0 hb1.size))).trans hb3.1).trans (Qjn hb4 (Nat.le_trans (Nat.le_trans (Nat.le_trans hz0 hb1.size) hb2.size) hb3.size))).trans (Qjn hb5 (Nat.le_trans (Nat.le_trans (Nat.le_trans (Nat.le_trans hz0 hb1.size) hb2.size) hb3.size) hb4.size)));clear hR5)
  |(at_builtin;refine Kd.R_append (Kd.int .u8) (w0:=w) w.heap.size rfl (.tmp 10) (.tmp 11) 52 5 (.int .u8 0) 1 rfl Tryz.underlying52 Qiu rfl (by decide) (by omega) v5 (Qkw ([]++l0++leb (Qma 0 l0) 8)) 0 [.int .u8 0] (fun _=>True) (fun _=>False) rfl ?ax ?aP (fun _ hk=>hk.elim) ?aF ?aO ?aB ?aS ?aL ?_;(case ax=>rfl);(case aP=>rfl);(case aF=>exact fun _ _=>trivial);(case aO=>exact HR5.out.low (Nat.le_trans (Nat.le_trans (Nat.le_trans (Nat.le_trans hz0 hb1.size) hb2.size) hb3.size) hb4.size));(case aB=>exact hB5.out);(case aS=>exact hz5);(case aL=>have:=Qnl _ ([]++l0++leb (Qma 0 l0) 8) (Nat.le_refl _);rw[Qnn]at this;omega);intro v6 w6 HR6 hb6 hg6 hat6))
 go_ret
 exact⟨v6,rfl,HR6,hb6⟩
def Qno(e s n:Int):List Int:=Qnk ([1,2,e]++vput 9 s++vput 9 n)
def Qci.f(a0_0 a0_1 a1:Int):Option (List Int × Int) :=
 (Qcj.f a0_0 a0_1 a1).bind fun e=>if e=0 then(if 0≤a0_0∧a0_0<256∧0≤a0_1∧a0_1<4294967296∧0≤a1∧a1<4294967296 then some (Qno a0_0 a0_1 a1,0)else none)else some ([],e)
theorem seal_at(A:Option Addr)(n c:Nat)(l:List Int)(w:World)(hC:Kd.C (Kd.int .u8) w A n l)(hl:l.length≤35184372088824) :
  Calls Tryz.prog 96 #[.slice A n c] w fun e w'=>∃v0_:Value,e=.returned (v0_)∧R8 w' w.heap.size v0_ (Qnk l)∧Below w.heap.size w w':=by
 have hn:=hC.1
 subst hn
 exact seal_of A c l w hC hl
theorem box2{W:World}{B:Nat}{e s:Int}(h:W.heap[B]? = some (.cells #[.int .u8 e,.int .u32 s] 27 (0,0))):W.cell? ⟨B,0,none⟩=some (.int .u8 e)∧W.cell? ⟨B,1,none⟩=some (.int .u32 s) :=
 ⟨(Qds h 0).trans rfl,(Qds h 1).trans rfl⟩
theorem head_of(e s n:Int)(w:World)(hc:Qcj.f e s n=some 0)(he0:0≤e)(he1:e<256)(hs0:0≤s)(hs1:s<4294967296)(hn0:0≤n)(hn1:n<4294967296) :
  Calls Tryz.prog 53 #[.agg #[.int .u8 e,.int .u32 s],.int .u32 n] w fun ee w'=>∃v0_:Value,ee=.returned (.tuple #[v0_,.int .i64 0])∧R8 w' w.heap.size v0_ (Qno e s n)∧Below w.heap.size w w':=by
 have hu:=Tryz.underlying27
 have hl1:=Qle 9 s
 have hl2:=Qle 9 n
 have HC:=QA hc
 clear hc
 have hba:Below w.heap.size w (w.alloc (.cells #[.int .u8 e,.int .u32 s] 27)):=Qcu (Below.refl _ _) _
 have hbn:=Qei w (.cells #[.int .u8 e,.int .u32 s] 27)
 go_enter Tryz.func53,Tryz.ntmps53
 go_wp2_with (first
  |(go_at_call 93;refine(Qcj.calls e s n 0 _ HC.out).mono ?_;rintro ee w1 ⟨rfl,hb1⟩;have hk1:=Qeh hbn hb1;have hw1:=QA (Qcx hba hba.size hb1);have hs1':=QA (show w.heap.size<w1.heap.size from Qdr hk1);have HI1:=QA (IsBuf.new w1 w.heap.size);have hk1':=Qee hk1 (.cells #[.slice none 0 0] 167);obtain⟨c0,c1⟩:=box2 hk1';clear hk1 hb1 hbn hba))
 obtain⟨W,hW⟩:∃W,W=w1.alloc (.cells #[.slice none 0 0] 167):=⟨_,rfl⟩
 have hbW:Below w1.heap.size w1 W:=by rw[hW];exact Qcu (Below.refl _ _) _
 rw[← hW]at hk1' c0 c1 HI1 ⊢
 clear hW
 have hkd:=Qeh hk1' (Qcv (Below.refl W.heap.size W))
 have hId:=HI1.out.kept (Qcv (Below.refl W.heap.size W))
 obtain⟨j0,j1⟩:=box2 hkd
 have hg:=Nat.le_of_lt hs1'.out
 have hzd:w.heap.size≤W.drew.heap.size:=Nat.le_trans hg hbW.size
 have hne:=Nat.ne_of_lt hs1'.out
 go_region_held3 (fun w'=>w'.cell? ⟨w.heap.size,0,none⟩=some (.int .u8 e)∧w'.cell? ⟨w.heap.size,1,none⟩=some (.int .u32 s)) (first|exact⟨j0,j1⟩|exact⟨i0,i1⟩|exact⟨i2,i3⟩|exact⟨i4,i5⟩) (first
  |(go_at_call_of 94 (Value.int .u8 1);refine(Qjq w.heap.size w1.heap.size 1 [] W.drew (by decide) (by decide) hg hzd hId (by simp)).mono ?_;rintro ee w2 ⟨rfl,hI2,hb2⟩;have hk2:=hb2.2 _ _ _ hkd (by decide) hne;obtain⟨i0,i1⟩:=box2 hk2)
  |(go_at_call_of 94 (Value.int .u8 2);refine(Qjq w.heap.size w1.heap.size 2 ([]++[1]) w2 (by decide) (by decide) hg (Nat.le_trans hzd hb2.size) hI2 (by simp)).mono ?_;rintro ee w3 ⟨rfl,hI3,hb3⟩;have hk3:=hb3.2 _ _ _ hk2 (by decide) hne;obtain⟨i2,i3⟩:=box2 hk3)
  |(go_at_call_of 94 (Value.int .u8 e);refine(Qjq w.heap.size w1.heap.size e ([]++[1]++[2]) w3 he0 he1 hg (Nat.le_trans (Nat.le_trans hzd hb2.size) hb3.size) hI3 (by simp)).mono ?_;rintro ee w4 ⟨rfl,hI4,hb4⟩;have hk4:=hb4.2 _ _ _ hk3 (by decide) hne;obtain⟨i4,i5⟩:=box2 hk4))
 have hz4:w.heap.size≤w4.heap.size:=Nat.le_trans (Nat.le_trans (Nat.le_trans hzd hb2.size) hb3.size) hb4.size
 have HB4:=QA (show Below w.heap.size w w4 from((((hw1.out.trans (Qjn hbW hg)).trans (Qjn (Qcv (Below.refl W.heap.size W)) (Nat.le_trans hg hbW.size))).trans hb2.1).trans hb3.1).trans hb4.1)
 clear i0 i1 i2 i3 j0 j1 hk2 hk3 hb2 hb3 hb4 hI2 hI3 hkd hId
 go_wp2_with (first
  |(go_at_call_of 95 (Value.int .u64 s);refine(Qlf w.heap.size w1.heap.size s _ w4 hs0 (by omega) hg hz4 hI4 (by simp)).mono ?_;rintro ee w5 ⟨⟨_,rfl⟩,hI5,hb5⟩)
  |(go_at_call_of 95 (Value.int .u64 n);refine(Qlf w.heap.size w1.heap.size n _ w5 hn0 (by omega) hg (Nat.le_trans hz4 hb5.size) hI5 (by simp;omega)).mono ?_;rintro ee w6 ⟨⟨_,rfl⟩,hI6,hb6⟩)
  |(go_at_call 97;refine(Qjs w.heap.size w1.heap.size _ w6 hI6 (by simp;omega)).mono ?_;rintro ee w7 ⟨v7,rfl,hR7,hb7⟩;obtain⟨A7,n7,c7,rfl,hn7,hlc7,hC7⟩:=R8.reads hR7)
  |(go_at_call 96;refine(seal_at A7 n7 c7 _ w7 hC7 (by simp;omega)).mono ?_;rintro ee w8 ⟨v8,rfl,hR8,hb8⟩))
 refine bodyPost_ret (results_tmp2 rfl _ _ _) rfl ?_
 have hz6:w.heap.size≤w6.heap.size:=Nat.le_trans (Nat.le_trans hz4 hb5.size) hb6.size
 have hz7:w.heap.size≤w7.heap.size:=Nat.le_trans hz6 hb7.size
 exact⟨v8,rfl,R8.low hR8 hz7,(((HB4.out.trans hb5.1).trans hb6.1).trans (Qjn hb7 hz6)).trans (Qjn hb8 hz7)⟩
theorem Qnp(e s n c:Int)(w:World)(hc:Qcj.f e s n=some c)(hn:c≠0) :
  Calls Tryz.prog 53 #[.agg #[.int .u8 e,.int .u32 s],.int .u32 n] w fun ee w'=>∃v0_:Value,ee=.returned (.tuple #[v0_,.int .i64 c])∧R8 w' w.heap.size v0_ []∧Below w.heap.size w w':=by
 have hu:=Tryz.underlying27
 have HC:=QA hc
 clear hc
 have hn1:(c == 0)=false:=by simpa using hn
 have hn2:(c != 0)=true:=by simpa using hn
 have hba:Below w.heap.size w (w.alloc (.cells #[.int .u8 e,.int .u32 s] 27)):=Qcu (Below.refl _ _) _
 go_enter Tryz.func53,Tryz.ntmps53
 go_wp2_with (go_at_call 93;refine(Qcj.calls e s n c _ HC.out).mono ?_;rintro ee w1 ⟨rfl,hb1⟩)
 refine bodyPost_ret (results_tmp2 rfl _ _ _) rfl ?_
 exact⟨_,rfl,Kd.R_nil _ _ _ _ _,Qcx hba hba.size hb1⟩
theorem Qci.calls(a0_0 a0_1 a1:Int)(r1:List Int)(r2:Int)(w:World)(h:Qci.f a0_0 a0_1 a1=some (r1,r2)) :
  Calls Tryz.prog 53 #[.agg #[.int .u8 a0_0,.int .u32 a0_1],.int .u32 a1] w fun e w'=>∃v0_:Value,e=.returned (.tuple #[v0_,.int .i64 r2])∧Kd.R (Kd.int .u8) 5 w' w.heap.size (fun _=>True) v0_ r1∧Below w.heap.size w w':=by
 unfold Qci.f at h
 obtain⟨c,hc,h⟩:=Option.bind_eq_some_iff.mp h
 by_cases h0:c=0
 ·subst h0
  rw[if_pos rfl]at h
  by_cases h1:0≤a0_0∧a0_0<256∧0≤a0_1∧a0_1<4294967296∧0≤a1∧a1<4294967296
  ·rw[if_pos h1]at h
   cases h
   exact head_of _ _ _ w hc h1.1 h1.2.1 h1.2.2.1 h1.2.2.2.1 h1.2.2.2.2.1 h1.2.2.2.2.2
  ·rw[if_neg h1]at h;cases h
 ·rw[if_neg h0]at h
  cases h
  exact Qnp _ _ _ _ w hc h0
end Go.Proofs.YtnnofopfbeklbaaGreat.C
end
section
namespace Go.Proofs.YtnnofopfbeklbaaGreat.CodecP
open Go.RowKit Go.Proofs.YtnnofopfbeklbaaGreat.C Go.Proofs.YtnnofopfbeklbaaGreatW.PrintWords Go.Proofs.YtnnofopfbeklbaaGreatW.PrintLast Go.Proofs.YtnnofopfbeklbaaGreatW.PrintMore
def rotN(x n:Nat):Nat:=(x%2^(64-n))*2^n+x/2^(64-n)
theorem Qmd(x n:Nat)(hx:x<2^64)(hn:n≤64):rotN x n<2^64:=by
 unfold rotN
 have hp:(2:Nat)^(64-n)*2^n=2^64:=by rw[← Nat.pow_add];congr 1;omega
 have h1:x%2^(64-n)<2^(64-n):=Nat.mod_lt _ (Nat.two_pow_pos _)
 have h2:x/2^(64-n)<2^n:=by rw[Nat.div_lt_iff_lt_mul (Nat.two_pow_pos _),Nat.mul_comm,hp];exact hx
 have h3:(x%2^(64-n))*2^n+2^n≤2^(64-n)*2^n:=by
  rw[← Nat.succ_mul]
  exact Nat.mul_le_mul_right _ h1
 omega
theorem Qme(x i:Nat)(hx:x<2^64)(hi:i<64):(2*rotN x i)%2^64+rotN x i/2^63=rotN x (i+1):=by
 unfold rotN
 obtain⟨m,hm⟩:∃m,m=63-i:=⟨_,rfl⟩
 rw[show 64-i=m+1 by omega,show 64-(i+1)=m by omega]
 have hp:(2:Nat)^m*2^i=2^63:=by rw[← Nat.pow_add];congr 1;omega
 rw[Nat.pow_succ 2 m,Nat.pow_succ 2 i]
 generalize hP:(2:Nat)^m=P at *
 generalize hQ:(2:Nat)^i=Q at *
 have hP0:0<P:=by rw[← hP];exact Nat.two_pow_pos _
 have hQ0:0<Q:=by rw[← hQ];exact Nat.two_pow_pos _
 obtain⟨a,ha⟩:∃a,a=x/(P*2):=⟨_,rfl⟩
 obtain⟨b,hb⟩:∃b,b=x%(P*2):=⟨_,rfl⟩
 have hxab:x=P*2*a+b:=by rw[ha,hb];exact(Nat.div_add_mod x (P*2)).symm
 have hbl:b<P*2:=by rw[hb];exact Nat.mod_lt _ (by omega)
 have haQ:a<Q:=by
  rw[ha,Nat.div_lt_iff_lt_mul (by omega),Nat.mul_comm,Nat.mul_assoc,Nat.mul_comm 2 Q,← Nat.mul_assoc,hp]
  omega
 obtain⟨c,hc⟩:∃c,c=b/P:=⟨_,rfl⟩
 obtain⟨d,hd⟩:∃d,d=b%P:=⟨_,rfl⟩
 have hbcd:b=P*c+d:=by rw[hc,hd];exact(Nat.div_add_mod b P).symm
 have hdl:d<P:=by rw[hd];exact Nat.mod_lt _ hP0
 have hcl:c<2:=by rw[hc,Nat.div_lt_iff_lt_mul hP0,Nat.mul_comm];exact hbl
 have hxP:x/P=2*a+c:=by
  rw[hxab,hbcd,show P*2*a+(P*c+d)=P*(2*a+c)+d by rw[Nat.mul_add,Nat.mul_assoc,Nat.add_assoc],Nat.mul_add_div hP0,Nat.div_eq_of_lt hdl]
  rfl
 have hxm:x%P=d:=by
  rw[hxab,hbcd,show P*2*a+(P*c+d)=P*(2*a+c)+d by rw[Nat.mul_add,Nat.mul_assoc,Nat.add_assoc],Nat.mul_add_mod,Nat.mod_eq_of_lt hdl]
 rw[← ha,← hb,hxP,hxm]
 have he:d*Q+a<2^63:=by
  have:d*Q+Q≤P*Q:=by rw[← Nat.succ_mul];exact Nat.mul_le_mul_right _ hdl
  omega
 have hbq:b*Q+a=2^63*c+(d*Q+a):=by
  rw[hbcd,Nat.add_mul,Nat.mul_assoc,Nat.mul_comm c Q,← Nat.mul_assoc,hp,Nat.add_assoc]
 rw[hbq,show d*(Q*2)=2*(d*Q)by rw[← Nat.mul_assoc,Nat.mul_comm]]
 generalize d*Q=q at *
 clear hp hbq hxab hbcd hbl
 have:c=0∨c=1:=by omega
 rcases this with rfl|rfl<;>omega
theorem Qmf(x n:Nat)(hx:x<2^64)(h0:0<n)(hn:n<64):rotP (x:Int) (n:Int)=(rotN x n:Nat):=by
 have hand:Go.bits .and .u64 (IntKind.u64.wrap (n:Int)) 63=(n:Int):=by
  rw[IntWalk.u64_in _ (by omega),show(63:Int)=((63:Nat):Int) from rfl,bits_and_u64_nat _ _ (by omega) (by decide)]
  have:=Nat.and_two_pow_sub_one_eq_mod n 6
  rw[show(63:Nat)=2^6-1 from rfl,this,Nat.mod_eq_of_lt (by omega)]
 have h:=Qjt (x:Int) (n:Int) ⟨by omega,by omega,hand⟩
 unfold Qac.f at h
 rw[hand,if_pos (by omega),IntWalk.u64_in _ (by omega),if_pos (by omega),Option.some_inj]at h
 rw[← h]
 unfold shl shr rotN
 have e1:min (n:Int).toNat IntKind.u64.bits=n:=by simp[IntKind.bits];omega
 have e2:min ((64:Int)-(n:Int)).toNat IntKind.u64.bits=64-n:=by simp[IntKind.bits]<;>omega
 rw[e1,e2,IntKind.wrap_u64]
 have e3:((x:Int)*2^n)%18446744073709551616=(((x%2^(64-n))*2^n:Nat):Int):=by
  rw[← Nat.mul_mod_mul_right,← Nat.pow_add,show 64-n+n=64 by omega]
  rw[Int.natCast_emod,Int.natCast_mul,Int.natCast_pow]
  rfl
 have e4:(x:Int)/2^(64-n)=((x/2^(64-n):Nat):Int):=by rw[Int.natCast_ediv,Int.natCast_pow];rfl
 rw[e3,e4]
 have hp:(2:Nat)^(64-n)*2^n=2^64:=by rw[← Nat.pow_add];congr 1;omega
 have h1:x%2^(64-n)<2^(64-n):=Nat.mod_lt _ (Nat.two_pow_pos _)
 have h2:x/2^(64-n)<2^n:=by rw[Nat.div_lt_iff_lt_mul (Nat.two_pow_pos _),Nat.mul_comm,hp];exact hx
 have h3:(x%2^(64-n))*2^n+2^n≤2^(64-n)*2^n:=by
  rw[← Nat.succ_mul]
  exact Nat.mul_le_mul_right _ h1
 have hq:=Nat.two_pow_pos n
 rw[bits_or_u64_nat _ _ (by omega) (by omega)]
 congr 1
 rw[Nat.mul_comm,← Nat.two_pow_add_eq_or_of_lt h2]
theorem Qmg(x n:Nat)(hx:x<2^64)(hn:n≤64):Qkc (x:Int) n=(rotN x n:Nat):=by
 have key:∀(d i:Nat),i+d=n→Qbh.l0 (d+1) ((rotN x i:Nat):Int) (n:Int) (i:Int)=some ((rotN x n:Nat):Int):=by
  intro d
  induction d with
  | zero =>
   intro i h
   unfold Qbh.l0
   obtain rfl:i=n:=by omega
   rw[if_neg (by omega)]
  | succ d ih =>
   intro i h
   unfold Qbh.l0
   rw[if_pos (by omega),show wrap64 ((i:Int)+1)=((i+1:Nat):Int)by unfold wrap64;omega]
   have hl:=Qmd x i hx (by omega)
   have hs:=Qme x i hx (by omega)
   have e:IntKind.u64.wrap ((IntKind.u64.wrap (2*((rotN x i:Nat):Int)))+(IntKind.u64.wrap (Int.tdiv ((rotN x i:Nat):Int) 9223372036854775808)))=((rotN x (i+1):Nat):Int):=by
    rw[← hs,Int.tdiv_eq_ediv_of_nonneg (by omega)]
    generalize rotN x i=y at *
    simp only[IntKind.wrap_u64]
    omega
   rw[e]
   exact ih (i+1) (by omega)
 have h0:rotN x 0=x:=by simp[rotN,Nat.mod_eq_of_lt hx,Nat.div_eq_of_lt hx]
 have:=key n 0 (by omega)
 rw[h0]at this
 unfold Qkc Qbh.f
 rw[show((0:Nat):Int)=0 from rfl]at this
 rw[this]
 rfl
theorem Qmh(x:Int)(n:Nat)(hx0:0≤x)(hx:x<18446744073709551616)(h0:0<n)(hn:n<64):Qkc x n=rotP x (n:Int):=by
 obtain⟨y,rfl⟩:=Int.eq_ofNat_of_zero_le hx0
 rw[Qmg y n (by omega) (by omega),Qmf y n (by omega) h0 hn]
theorem u64r(x:Int):0≤IntKind.u64.wrap x∧IntKind.u64.wrap x<18446744073709551616:=by
 rw[IntKind.wrap_u64]
 omega
theorem Qmi(x y:Int):Qke x y=Qju x y:=by
 unfold Qke Qju Qbf.f Qcr.f
 rw[show(32:Nat)=31+1 from rfl,show(31:Int)=((31:Nat):Int) from rfl,Qkd _ 31 (by omega)]
 have hw:=u64r (x+(IntKind.u64.wrap (y*14029467366897019727)))
 rw[Qmh _ 31 hw.1 hw.2 (by omega) (by omega),Qjt _ _ ⟨by decide,by decide,by kernel_rfl⟩]
def leI:List Int→Int
 | []=>0
 | b :: l=>b+256*leI l
def Bytes(l:List Int):Prop:=∀x∈l,0≤x∧x<256
theorem Qmj(s:ByteArray):Bytes (bytesOf s):=by
 intro x hx
 unfold bytesOf at hx
 obtain⟨b,_,rfl⟩:=List.mem_map.1 hx
 have:=b.toNat_lt
 omega
theorem Bytes.drop{l:List Int}(h:Bytes l)(n:Nat):Bytes (l.drop n):=fun x hx=>h x (List.mem_of_mem_drop hx)
theorem Bytes.take{l:List Int}(h:Bytes l)(n:Nat):Bytes (l.take n):=fun x hx=>h x (List.mem_of_mem_take hx)
theorem leI_range{l:List Int}(h:Bytes l):0≤leI l∧leI l<256^l.length:=by
 induction l with
 | nil=>simp[leI]
 | cons b l ih =>
  have h1:=ih (fun x hx=>h x (List.mem_cons_of_mem _ hx))
  have h2:=h b (List.mem_cons_self ..)
  simp only[leI,List.length_cons,Int.pow_succ]
  omega
theorem Qmk(l:List Int)(b:Int):leI (l++[b])=leI l+256^l.length*b:=by
 induction l with
 | nil=>simp[leI]
 | cons a l ih=>simp only[List.cons_append,leI,ih,List.length_cons,Int.pow_succ];rw[Int.mul_add,Int.mul_comm (256^l.length) 256,Int.mul_assoc];omega
theorem rd_get{l:List Int}{i:Nat}(h:i<l.length):rd l (i:Int)=l[i]:=by simp[rd,List.getD,List.getElem?_eq_getElem h]
theorem Qml{l:List Int}{i:Nat}(h:i<l.length):l.take (i+1)=l.take i++[rd l (i:Int)]:=by rw[List.take_succ_eq_append_getElem h,rd_get h]
theorem rd_range{l:List Int}(hb:Bytes l){i:Nat}(h:i<l.length):0≤rd l (i:Int)∧rd l (i:Int)<256:=by rw[rd_get h];exact hb _ (List.getElem_mem h)
theorem num_le(n:Nat)(hn:n≤8)(l:List Int)(hb:Bytes l)(hl:n≤l.length):numP n l=leI (l.take n):=by
 have key:∀(d i:Nat),i+d=n→Qcs.l0 (d+1) l (leI (l.take i)) (n:Int) (i:Int)=some (leI (l.take n)):=by
  intro d
  induction d with
  | zero =>
   intro i h
   unfold Qcs.l0
   obtain rfl:i=n:=by omega
   rw[if_neg (by omega)]
  | succ d ih =>
   intro i h
   unfold Qcs.l0
   have hw:wrap64 (8*(i:Int))=((8*i:Nat):Int):=by unfold wrap64;omega
   rw[if_pos (by omega),if_pos (by omega),if_pos (by omega),hw,if_pos (by omega),show wrap64 ((i:Int)+1)=((i+1:Nat):Int)by unfold wrap64;omega]
   have hr:=leI_range (hb.take i)
   have hlen:(l.take i).length=i:=by rw[List.length_take];omega
   rw[hlen]at hr
   have hd:=rd_range hb (show i<l.length by omega)
   have e:Go.bits .or .u64 (leI (l.take i)) (shl .u64 (IntKind.u64.wrap (rd l (i:Int))) ((8*i:Nat):Int))=leI (l.take (i+1)):=by
    rw[Qml (by omega),Qmk,hlen,IntWalk.u64_in _ (by omega)]
    generalize rd l (i:Int)=b at *
    generalize leI (l.take i)=a at *
    obtain⟨a,rfl⟩:=Int.eq_ofNat_of_zero_le hr.1
    obtain⟨b,rfl⟩:=Int.eq_ofNat_of_zero_le hd.1
    have hp:(256:Nat)^i=2^(8*i):=by rw[Nat.pow_mul]
    have ha:a<2^(8*i):=by
     have:=hr.2
     rw[← hp]
     exact_mod_cast this
    have hbig:b*2^(8*i)<2^64:=by
     have h1:b*2^(8*i)<2^8*2^(8*i):=Nat.mul_lt_mul_of_pos_right (by omega) (Nat.two_pow_pos _)
     have h2:(2:Nat)^8*2^(8*i)≤2^64:=by rw[← Nat.pow_add];exact Nat.pow_le_pow_right (by omega) (by omega)
     omega
    have ha2:a<2^64:=by
     have h2:(2:Nat)^(8*i)≤2^64:=Nat.pow_le_pow_right (by omega) (by omega)
     omega
    unfold shl
    rw[show min ((8*i:Nat):Int).toNat IntKind.u64.bits=8*i by simp[IntKind.bits];omega,IntKind.wrap_u64]
    have e1:((b:Int)*2^(8*i))%18446744073709551616=((2^(8*i)*b:Nat):Int):=by
     have e2:((b:Int)*2^(8*i))=((b*2^(8*i):Nat):Int):=by push_cast;rfl
     rw[e2,Nat.mul_comm (2^(8*i)) b]
     omega
    rw[e1,bits_or_u64_nat _ _ (by omega) (by rw[Nat.mul_comm];omega),Nat.or_comm,← Nat.two_pow_add_eq_or_of_lt ha]
    have e3:((256:Int)^i*(b:Int))=((256^i*b:Nat):Int):=by push_cast;rfl
    rw[e3,hp]
    omega
   rw[e]
   exact ih (i+1) (by omega)
 have:=key n 0 (by omega)
 unfold numP Qcs.f
 rw[show leI (l.take 0)=0 from rfl,show((0:Nat):Int)=0 from rfl]at this
 rw[this]
 rfl
theorem Qmm(s:ByteArray)(a b:Nat):bytesOf (s.extract a b)=((bytesOf s).drop a).take (b-a):=by
 unfold bytesOf
 rw[← List.map_drop,← List.map_take]
 congr 1
 have:(s.extract a b).data=s.data.extract a b:=by simp
 rw[this,Array.toList_extract]
theorem Qmn(s:ByteArray):s.size=(bytesOf s).length:=(Qdf s).symm
theorem Qmo(s:ByteArray)(hs:s.size≤8):rval s=leI (bytesOf s):=by
 have hB:=Qmj s
 have hlen:=Qdf s
 have key:∀(d:Nat) (x:Int),d≤s.size→0≤x→x*256^d+leI ((bytesOf s).take d)<18446744073709551616 →
   Qay.l0 (d+1) s x ((d:Int)-1)=some (x*256^d+leI ((bytesOf s).take d)):=by
  intro d
  induction d with
  | zero =>
   intro x h h0 hx
   unfold Qay.l0
   rw[if_neg (by omega)]
   simp[leI]
  | succ d ih =>
   intro x h h0 hx
   unfold Qay.l0
   rw[show((d+1:Nat):Int)-1=(d:Int)by omega,if_pos (by omega),if_pos (by omega),if_pos (by omega),show wrap64 ((d:Int)-1)=(d:Int)-1 by unfold wrap64;omega]
   have hd:=rd_range hB (show d<(bytesOf s).length by omega)
   have hr:=leI_range (hB.take d)
   rw[Qdg]at hd
   have e2:leI ((bytesOf s).take (d+1))=leI ((bytesOf s).take d)+256^d*bt s (d:Int):=by
    rw[Qml (by omega),Qmk,Qdg,List.length_take,Nat.min_eq_left (by omega)]
   have e3:x*256^(d+1)+leI ((bytesOf s).take (d+1))=(x*256+bt s (d:Int))*256^d+leI ((bytesOf s).take d):=by
    rw[e2,Int.pow_succ,Int.add_mul,Int.mul_comm (256^d) 256,← Int.mul_assoc,Int.mul_comm (256^d) (bt s (d:Int))]
    omega
   rw[e3]at hx ⊢
   have hpow:(1:Int)≤256^d:=by
    have:=Nat.one_le_pow d 256 (by omega)
    exact_mod_cast this
   have hle:x*256+bt s (d:Int)≤(x*256+bt s (d:Int))*256^d:=by
    have h1:0≤x*256+bt s (d:Int):=by omega
    calc x*256+bt s (d:Int)=(x*256+bt s (d:Int))*1:=by omega
     _≤_:=Int.mul_le_mul_of_nonneg_left hpow h1
   have e4:IntKind.u64.wrap ((IntKind.u64.wrap (x*256))+(IntKind.u64.wrap (bt s (d:Int))))=x*256+bt s (d:Int):=by
    rw[IntWalk.u64_in (x*256) (by omega),IntWalk.u64_in (bt s (d:Int)) (by omega),IntWalk.u64_in _ (by omega)]
   rw[e4]
   exact ih (x*256+bt s (d:Int)) (by omega) (by omega) hx
 have hr:=leI_range hB
 have hp:(256:Int)^(bytesOf s).length≤18446744073709551616:=by
  have h1:(256:Nat)^(bytesOf s).length≤256^8:=Nat.pow_le_pow_right (by omega) (by omega)
  have h2:(256:Nat)^8=18446744073709551616:=by decide
  rw[h2]at h1
  have h3:((256^(bytesOf s).length:Nat):Int)≤((18446744073709551616:Nat):Int):=Int.ofNat_le.2 h1
  rw[Int.natCast_pow]at h3
  exact h3
 have hall:(bytesOf s).take s.size=bytesOf s:=List.take_of_length_le (by omega)
 have h:=key s.size 0 (Nat.le_refl _) (Int.le_refl _) (by rw[hall];omega)
 rw[hall]at h
 unfold rval Qay.f
 rw[show wrap64 ((s.size:Int)-1)=(s.size:Int)-1 by unfold wrap64;omega,h]
 simp
theorem val_ext(s:ByteArray)(a b:Nat)(h:b-a≤8):rval (s.extract a b)=leI (((bytesOf s).drop a).take (b-a)):=by
 rw[Qmo _ (Nat.le_trans (Qkq s a b) h),Qmm]
theorem Qmp(s:ByteArray)(a n:Nat)(hn:n≤8)(h:a+n≤s.size):rval (s.extract a (a+n))=numP n ((bytesOf s).drop a):=by
 rw[val_ext s a (a+n) (by omega),num_le n hn _ ((Qmj s).drop a) (by rw[List.length_drop,Qdf];omega),Nat.add_sub_cancel_left]
def R64(x:Int):Prop:=0≤x∧x<18446744073709551616
def RV(v:V4):Prop:=R64 v.1∧R64 v.2.1∧R64 v.2.2.1∧R64 v.2.2.2
theorem Qmq(x y:Int):R64 (Qju x y):=by
 unfold Qju Qcr.f
 rw[Qjt _ _ ⟨by decide,by decide,by kernel_rfl⟩]
 exact u64r _
theorem Qmr(v:V4)(l:List Int):RV (Qjv v l):=⟨Qmq _ _,Qmq _ _,Qmq _ _,Qmq _ _⟩
theorem Qms(v:V4)(s:ByteArray)(h:32≤s.size):Qki v s=Qjv v (bytesOf s):=by
 unfold Qki Qjv
 have h0:=Qmp s 0 8 (by omega) (by omega)
 have h1:=Qmp s 8 8 (by omega) (by omega)
 have h2:=Qmp s 16 8 (by omega) (by omega)
 have h3:=Qmp s 24 8 (by omega) (by omega)
 simp only[Qmi]
 rw[show(8:Nat)=0+8 from rfl,h0,show(0+8:Nat)=8 from rfl,h1,h2,h3]
 rfl
theorem Qmt:∀(m:Nat) (v:V4) (s:ByteArray),32*m≤s.size→RV v→(rrun m v s).1=Qjw m v (bytesOf s)∧bytesOf (rrun m v s).2=(bytesOf s).drop (32*m)∧RV (Qjw m v (bytesOf s))
 | 0,v,s,_,hv=>⟨rfl,by simp[rrun],hv⟩
 | m+1,v,s,h,hv=>by
  have hsz:(s.extract 32 s.size).size=s.size-32:=by simp
  have hb:bytesOf (s.extract 32 s.size)=(bytesOf s).drop 32:=by
   rw[Qmm]
   exact List.take_of_length_le (by rw[List.length_drop,Qdf];omega)
  obtain⟨h1,h2,h3⟩:=Qmt m (Qki v s) (s.extract 32 s.size) (by omega) (by rw[Qms v s (by omega)];exact Qmr _ _)
  rw[hb,Qms v s (by omega)]at h1 h3
  refine⟨?_,?_,h3⟩
  ·show(rrun m (Qki v s) (s.extract 32 s.size)).1=Qjw m (Qjv v (bytesOf s)) ((bytesOf s).drop 32)
   rw[Qms v s (by omega)]
   exact h1
  ·show bytesOf (rrun m (Qki v s) (s.extract 32 s.size)).2=_
   rw[h2,hb,List.drop_drop]
   congr 1
   omega
theorem rotP_r(x:Int)(n:Nat)(hx:R64 x)(h0:0<n)(hn:n<64):R64 (rotP x (n:Int)):=by
 obtain⟨hx0,hx1⟩:=hx
 obtain⟨y,rfl⟩:=Int.eq_ofNat_of_zero_le hx0
 rw[Qmf y n (by omega) h0 hn]
 have:=Qmd y n (by omega) (by omega)
 unfold R64
 omega
theorem Qmu(V:V4)(hV:RV V):rsum V=Qlj 4 V:=by
 obtain⟨h1,h2,h3,h4⟩:=hV
 rw[Qlp,Qlo,Qln,Qlm,Qll]
 unfold rsum
 have r1:=rotP_r V.1 1 h1 (by omega) (by omega)
 rw[Qmh _ 1 h1.1 h1.2 (by omega) (by omega),Qmh _ 7 h2.1 h2.2 (by omega) (by omega),Qmh _ 12 h3.1 h3.2 (by omega) (by omega),Qmh _ 18 h4.1 h4.2 (by omega) (by omega)]
 rw[Int.zero_add,show((1:Nat):Int)=1 from rfl,show((7:Nat):Int)=7 from rfl,show((12:Nat):Int)=12 from rfl,show((18:Nat):Int)=18 from rfl]
 rw[show((1:Nat):Int)=1 from rfl]at r1
 rw[IntWalk.u64_in (rotP V.1 1) ⟨r1.1,by have:=r1.2;omega⟩]
theorem Qmv(h:Int)(V:V4):rmix h V=Qlk 4 h V:=by
 rw[Qlu,Qlt,Qls,Qlr,Qlq]
 unfold rmix Qkj mixP
 simp only[Qmi]
theorem Qmw{k:Nat}(x:Int)(n:Nat)(hx:R64 x)(h0:0<n)(hn:n<64)(hk:n+1≤k):Qbh.f k x (n:Int)=some (rotP x (n:Int)):=by
 rw[← Qmh x n hx.1 hx.2 h0 hn]
 exact Qdl (g:=fun k=>Qbh.f k x (n:Int)) (Qbh.mono x (n:Int)) hk (Qkd x n (by omega))
theorem into_k{k:Nat}(x y:Int)(hk:32≤k):Qbf.f k x y=some (Qju x y):=by
 rw[← Qmi]
 exact Qdl (g:=fun k=>Qbf.f k x y) (Qbf.mono x y) hk (Qkf x y)
theorem val_k{k:Nat}(s:ByteArray)(a n:Nat)(hn:n≤8)(h:a+n≤s.size)(hk:9≤k):Qay.f k (s.extract a (a+n))=some (numP n ((bytesOf s).drop a)):=by
 rw[← Qmp s a n hn h]
 have hs:(s.extract a (a+n)).size≤8:=Nat.le_trans (Qkq s a (a+n)) (by omega)
 exact Qdl (g:=fun k=>Qay.f k (s.extract a (a+n))) (Qay.mono _) (by omega) (Qkh _ (by omega))
theorem mix_k{k:Nat}(x:Int)(n:Nat)(hx:R64 x)(hn:n<64)(hk:n+1≤k):Qbg.f k x (n:Int)=some (Go.bits .xor .u64 x (x/2^n)):=by
 have key:∀(d i:Nat),i+d=n→Qbg.l0 (d+1) x (x/2^i) (n:Int) (i:Int)=some (Go.bits .xor .u64 x (x/2^n)):=by
  intro d
  induction d with
  | zero =>
   intro i h
   unfold Qbg.l0
   obtain rfl:i=n:=by omega
   rw[if_neg (by omega)]
  | succ d ih =>
   intro i h
   unfold Qbg.l0
   have hq:0≤x/2^i:=Int.ediv_nonneg hx.1 (Int.pow_nonneg (by decide))
   have hql:x/2^i≤x:=Int.ediv_le_self _ hx.1
   have hx1:=hx.2
   rw[if_pos (by omega),show wrap64 ((i:Int)+1)=((i+1:Nat):Int)by unfold wrap64;omega,Int.tdiv_eq_ediv_of_nonneg hq]
   have e:IntKind.u64.wrap (x/2^i/2)=x/2^(i+1):=by
    rw[IntWalk.u64_in _ (by omega),Int.pow_succ,Int.ediv_ediv_of_nonneg (Int.pow_nonneg (by decide))]
   rw[e]
   exact ih (i+1) (by omega)
 have h:=key n 0 (by omega)
 rw[show x/2^0=x by simp,show((0:Nat):Int)=0 from rfl]at h
 exact Qdl (g:=fun k=>Qbg.f k x (n:Int)) (Qbg.mono x (n:Int)) hk h
theorem one1_r(h x:Int):R64 (one1 h x):=u64r _
theorem one4_r(h:Int)(l:List Int):R64 (one4 h l):=u64r _
theorem one8_r(h:Int)(l:List Int):R64 (one8 h l):=u64r _
theorem Qmx(op:BinOp)(x y:Int):R64 (Go.bits op .u64 x y):=(by unfold Go.bits;split<;>exact u64r _)
theorem fin_k{k:Nat}(h:Int)(hh:R64 h)(hk:34≤k):((Qbg.f k h 33).bind fun t335=>((Qbg.f k (IntKind.u64.wrap (t335*14029467366897019727)) 29).bind fun t336=>((Qbg.f k (IntKind.u64.wrap (t336*1609587929392839161)) 32).bind fun t337=>(some t337))))=some (finP h):=by
 rw[show(33:Int)=((33:Nat):Int) from rfl,mix_k h 33 hh (by omega) (by omega),Option.bind_some]
 rw[show(29:Int)=((29:Nat):Int) from rfl,mix_k _ 29 (u64r _) (by omega) (by omega),Option.bind_some]
 rw[show(32:Int)=((32:Nat):Int) from rfl,mix_k _ 32 (u64r _) (by omega) (by omega),Option.bind_some]
 rfl
theorem Qmy(s:ByteArray)(hs:s.size≤4611686018427387904):∀(d i k:Nat) (h:Int),i+d=s.size→R64 h→d+40≤k→Qbd.l2 k s h (i:Int)=some (finP (((bytesOf s).drop i).foldl one1 h))
 | 0,i,k,h,hi,hh,hk=>by
  obtain⟨k,rfl⟩:∃m,k=m+1:=⟨k-1,by omega⟩
  unfold Qbd.l2
  rw[if_neg (by omega),fin_k h hh (by omega),List.drop_of_length_le (by rw[Qdf];omega)]
  rfl
 | d+1,i,k,h,hi,hh,hk=>by
  obtain⟨k,rfl⟩:∃m,k=m+1:=⟨k-1,by omega⟩
  unfold Qbd.l2
  rw[if_pos (by omega),if_pos (by omega),show(11:Int)=((11:Nat):Int) from rfl,Qmw _ 11 (Qmx _ _ _) (by omega) (by omega) (by omega),Option.bind_some,show wrap64 ((i:Int)+1)=((i+1:Nat):Int)by unfold wrap64;omega]
  have:=Qmy s hs d (i+1) k (one1 h (bt s (i:Int))) (by omega) (one1_r _ _) (by omega)
  rw[List.drop_eq_getElem_cons (by rw[Qdf];omega),List.foldl_cons,← rd_get (l:=bytesOf s) (by rw[Qdf];omega),Qdg]
  exact this
theorem Qmz(s:ByteArray)(hs:s.size<4)(k:Nat)(h:Int)(hh:R64 h)(hk:60≤k):Qbd.l1 k s h=some (finP ((bytesOf s).foldl one1 h)):=by
 obtain⟨k,rfl⟩:∃m,k=m+1:=⟨k-1,by omega⟩
 unfold Qbd.l1
 rw[if_neg (by omega)]
 have:=Qmy s (by omega) s.size 0 k h (by omega) hh (by omega)
 exact this
theorem Qna(s:ByteArray)(a:Nat):(s.extract a s.size).size=s.size-a:=by simp
theorem Qnb(s:ByteArray)(a:Nat):bytesOf (s.extract a s.size)=(bytesOf s).drop a:=by
 rw[Qmm]
 exact List.take_of_length_le (by rw[List.length_drop,Qdf];omega)
theorem sum_l1(s:ByteArray)(hs:s.size<8)(k:Nat)(h:Int)(hh:R64 h)(hk:70≤k):Qbd.l1 k s h=some (if 4≤(bytesOf s).length then finP (((bytesOf s).drop 4).foldl one1 (one4 h (bytesOf s)))else finP ((bytesOf s).foldl one1 h)):=by
 by_cases h4:4≤s.size
 ·obtain⟨k,rfl⟩:∃m,k=m+1:=⟨k-1,by omega⟩
  unfold Qbd.l1
  rw[if_pos (by omega),if_pos (by omega),if_pos (by omega)]
  have hv:=val_k (k:=k) s 0 4 (by omega) (by omega) (by omega)
  rw[Nat.zero_add,List.drop_zero]at hv
  rw[hv,Option.bind_some,show(23:Int)=((23:Nat):Int) from rfl,Qmw _ 23 (Qmx _ _ _) (by omega) (by omega) (by omega),Option.bind_some,if_pos (by rw[Qdf];omega),← Qnb]
  exact Qmz (s.extract 4 s.size) (by rw[Qna];omega) k (one4 h (bytesOf s)) (one4_r _ _) (by omega)
 ·rw[if_neg (by rw[Qdf];omega)]
  exact Qmz s (by omega) k h hh (by omega)
theorem Qnc(h:Int)(l:List Int)(hl:8≤l.length):sumP h l=sumP (one8 h l) (l.drop 8):=by
 unfold sumP
 obtain⟨m,hm⟩:∃m,l.length/8=m+1:=⟨l.length/8-1,by omega⟩
 have hm':(l.drop 8).length/8=m:=by rw[List.length_drop];omega
 have hd:(l.drop 8).drop (8*m)=l.drop (8*(m+1)):=by rw[List.drop_drop];congr 1;omega
 rw[hm,hm',hd]
 rfl
theorem Qnd:∀(m k:Nat) (s:ByteArray) (h:Int),s.size/8=m→R64 h→m+90≤k→Qbd.l0 k s h=some (sumP h (bytesOf s))
 | 0,k,s,h,hm,hh,hk=>by
  obtain⟨k,rfl⟩:∃m,k=m+1:=⟨k-1,by omega⟩
  unfold Qbd.l0
  rw[if_neg (by omega),sum_l1 s (by omega) k h hh (by omega)]
  unfold sumP
  rw[show(bytesOf s).length/8=0 by rw[Qdf];exact hm]
  simp only[Nat.mul_zero,List.drop_zero,Qlz]
 | m+1,k,s,h,hm,hh,hk=>by
  obtain⟨k,rfl⟩:∃m,k=m+1:=⟨k-1,by omega⟩
  unfold Qbd.l0
  rw[if_pos (by omega),if_pos (by omega),if_pos (by omega)]
  have hv:=val_k (k:=k) s 0 8 (by omega) (by omega) (by omega)
  rw[Nat.zero_add,List.drop_zero]at hv
  rw[hv,Option.bind_some,into_k _ _ (by omega),Option.bind_some,show(27:Int)=((27:Nat):Int) from rfl,Qmw _ 27 (Qmx _ _ _) (by omega) (by omega) (by omega),Option.bind_some]
  rw[Qnc h _ (by rw[Qdf];omega),← Qnb]
  exact Qnd m k (s.extract 8 s.size) (one8 h (bytesOf s)) (by rw[Qna];omega) (one8_r _ _) (by omega)
theorem Qne(sd:Int)(s:ByteArray)(k:Nat)(hsd:R64 sd)(hs:s.size≤4611686018427387904)(hk:s.size+100≤k):Qbd.f k sd s=some (Qma sd (bytesOf s)):=by
 unfold Qbd.f Qma
 rw[Qdf,IntWalk.u64_in (s.size:Int) (by omega)]
 by_cases h32:32≤s.size
 ·rw[if_pos (by omega)]
  unfold Qbe.f
  rw[if_pos (by omega),Option.bind_some]
  have hR:RV (Qkk sd):=⟨u64r _,u64r _,hsd,u64r _⟩
  obtain⟨h1,h2,h3⟩:=Qmt (s.size/32) (Qkk sd) s (by omega) hR
  obtain⟨k,rfl⟩:∃m,k=m+1:=⟨k-1,by omega⟩
  have hj:∀a b c,Qbd.j0 (k+1) a b c=Qbd.l0 k a (IntKind.u64.wrap (c+b)):=fun _ _ _=>rfl
  rw[hj]
  have hsz:(rrun (s.size/32) (Qkk sd) s).2.size=s.size-32*(s.size/32):=by
   rw[Qmn,h2,List.length_drop,Qdf]
  have:=Qnd _ k (rrun (s.size/32) (Qkk sd) s).2 (IntKind.u64.wrap (rmix (rsum (rrun (s.size/32) (Qkk sd) s).1) (rrun (s.size/32) (Qkk sd) s).1+(s.size:Int))) rfl (u64r _) (by rw[hsz];omega)
  rw[this,h2,h1,Qmv,Qmu _ h3]
  unfold Qlv
  rw[if_neg (by omega)]
  rfl
 ·rw[if_neg (by omega)]
  obtain⟨k,rfl⟩:∃m,k=m+1:=⟨k-1,by omega⟩
  have hj:∀a b c,Qbd.j0 (k+1) a b c=Qbd.l0 k a (IntKind.u64.wrap (c+b)):=fun _ _ _=>rfl
  rw[hj,Qnd _ k s _ rfl (u64r _) (by omega),show s.size/32=0 by omega]
  unfold Qlv
  rw[if_pos (by omega)]
  rfl
end Go.Proofs.YtnnofopfbeklbaaGreat.CodecP
end
