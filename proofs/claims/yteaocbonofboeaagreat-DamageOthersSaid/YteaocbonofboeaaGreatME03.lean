/- Merged texts. -/
import Derived.Test.YteaocbonofboeaaGreatME02
set_option linter.unusedVariables false
set_option linter.unusedSimpArgs false
set_option maxHeartbeats 8000000
set_option maxRecDepth 100000
section
namespace Go.Proofs.YteaocbonofboeaaGreat.C
open Go.RowKit Go.Proofs.YteaocbonofboeaaGreatW.PrintWords Go.Proofs.YteaocbonofboeaaGreatW.PrintLast Go.Proofs.YteaocbonofboeaaGreatW.PrintMore
attribute [local go_sem] Qie Qif Qig Qih Qii Qij Qik Qil
def Qao.f(a0_0:Int)(a0_1:Int):Option (Int):=if a0_0<12 then(some 1)else(if a0_0 > 24 then(some 1)else(if a0_1<1 then(some 1)else(if a0_1 > 65536 then(some 1)else(some 0))))
theorem Qao.calls(c:Int)(d:Int)(r:Int)(w:World)(h:Qao.f c d=some r) :
  Calls Tryz.prog 118 #[.agg #[.int .u8 c,.int .u32 d]] w fun e w'=>e=.returned (.int .i64 r)∧Below w.heap.size w w':=by
 have hu28:=Tryz.underlying28;have HB:=QA (Below.refl w.heap.size w);have H:(if c<12 then(some 1)else(if c > 24 then(some 1)else(if d<1 then(some 1)else(if d > 65536 then(some 1)else(some 0)))))=some r:=h;clear h
 by_cases c2:c<12
 ·rw[if_pos c2]at H;have m:=decide_eq_true c2;clear c2;obtain rfl:=Option.some.inj H
  go_enter Tryz.func118,Tryz.ntmps118
  go_wp2_with (first |((with_reducible refine Qft (N:=1) rfl ?_);refine qq_e 1 #[.int .u8 c,.int .u32 d] 28 ?_;intro a hg w3 hbox hb;have n_:=qn4 (Qfi qq_b hb) (hbox) (qq_s hg:w.heap.size≤a) (qq_s hg:w.heap.size≤a);clear HB;obtain⟨HB,b,g,j⟩:=n_;clear hb hbox hg;obtain⟨x,y⟩:=qc2 b.out;have G:=Qds b.out))
  go_ret
  exact⟨qq_6,qq_b⟩
 ·rw [if_neg c2]at H;have m:=decide_eq_false c2;clear c2
  by_cases c5:c > 24
  ·rw[if_pos c5]at H;have n:decide (24<c)=true:=decide_eq_true c5;clear c5;obtain rfl:=Option.some.inj H
   go_enter Tryz.func118,Tryz.ntmps118
   go_wp2_with (first |((with_reducible refine Qft (N:=1) rfl ?_);refine qq_e 1 #[.int .u8 c,.int .u32 d] 28 ?_;intro a hg w6 hbox hb;have n_:=qn4 (Qfi qq_b hb) (hbox) (qq_s hg:w.heap.size≤a) (qq_s hg:w.heap.size≤a);clear HB;obtain⟨HB,b,g,j⟩:=n_;clear hb hbox hg;obtain⟨z,A⟩:=qc2 b.out;have I:=Qds b.out))
   go_ret
   exact⟨qq_6,qq_b⟩
  ·rw[if_neg c5]at H;have n:decide (24<c)=false:=decide_eq_false c5;clear c5
   by_cases c8:d<1
   ·rw[if_pos c8]at H;have o:=decide_eq_true c8;clear c8;obtain rfl:=Option.some.inj H
    go_enter Tryz.func118,Tryz.ntmps118
    go_wp2_with (first |((with_reducible refine Qft (N:=1) rfl ?_);refine qq_e 1 #[.int .u8 c,.int .u32 d] 28 ?_;intro a hg w9 hbox hb;have n_:=qn4 (Qfi qq_b hb) (hbox) (qq_s hg:w.heap.size≤a) (qq_s hg:w.heap.size≤a);clear HB;obtain⟨HB,b,g,j⟩:=n_;clear hb hbox hg;obtain⟨p,q⟩:=qc2 b.out;have B:=Qds b.out))
    go_ret
    exact⟨qq_6,qq_b⟩
   ·rw[if_neg c8]at H;have o:=decide_eq_false c8;clear c8
    by_cases k:d > 65536
    ·rw[if_pos k]at H;have l:decide (65536<d)=true:=decide_eq_true k;clear k;obtain rfl:=Option.some.inj H
     go_enter Tryz.func118,Tryz.ntmps118
     go_wp2_with (first |((with_reducible refine Qft (N:=1) rfl ?_);refine qq_e 1 #[.int .u8 c,.int .u32 d] 28 ?_;intro a hg J hbox hb;have n_:=qn4 (Qfi qq_b hb) (hbox) (qq_s hg:w.heap.size≤a) (qq_s hg:w.heap.size≤a);clear HB;obtain⟨HB,b,g,j⟩:=n_;clear hb hbox hg;obtain⟨s,t⟩:=qc2 b.out;have D:=Qds b.out))
     go_ret
     exact⟨qq_6,qq_b⟩
    ·rw[if_neg k]at H;have l:decide (65536<d)=false:=decide_eq_false k;clear k;obtain rfl:=Option.some.inj H
     go_enter Tryz.func118,Tryz.ntmps118
     go_wp2_with (first |((with_reducible refine Qft (N:=1) rfl ?_);refine qq_e 1 #[.int .u8 c,.int .u32 d] 28 ?_;intro a hg K hbox hb;have n_:=qn4 (Qfi qq_b hb) (hbox) (qq_s hg:w.heap.size≤a) (qq_s hg:w.heap.size≤a);clear HB;obtain⟨HB,b,g,j⟩:=n_;clear hb hbox hg;obtain⟨u,v⟩:=qc2 b.out;have E:=Qds b.out))
     go_ret
     exact⟨qq_6,qq_b⟩
def Qci.j0:Nat→Bool→Bool→Int→ByteArray→ByteArray→Option (Int)
 | 0,_,_,_,_,_=>none
 | k+1,x12,x178000,x178001,x178002,x178003=>if x12=true then(some 4)else(if(x178003.size:Int) > 1048576 then(some 3)else(some 0))
def Qci.f(k:Nat)(a0_0:Bool)(a0_1:Int)(a0_2:ByteArray)(a0_3:ByteArray):Option (Int):=if a0_2.toList=([]:List UInt8)then(some 4)else(if(a0_2.size:Int) > 4096 then(some 3)else(if a0_0=true then(Qci.j0 k (a0_3.toList != ([]:List UInt8)) a0_0 a0_1 a0_2 a0_3)else(Qci.j0 k false a0_0 a0_1 a0_2 a0_3)))
theorem Qci.mono_l:∀k,(∀y0 y1 y2 y3 y4,LeO (Qci.j0 k y0 y1 y2 y3 y4) (Qci.j0 (k+1) y0 y1 y2 y3 y4))
 | 0=>fun _ _ _ _ _ r h=>by simp[Qci.j0]at h
 | k+1=>by
  have ih0:=Qci.mono_l k
  ·intro y0 y1 y2 y3 y4;unfold Qci.j0
   repeat' first
   |(with_reducible exact ih0 _ _ _ _ _)
   |(with_reducible exact LeO.refl _)
   |(with_reducible exact LeO.none _)
   |(with_reducible refine LeO.ite ?_ ?_)
   |(with_reducible refine LeO.bind ?_ (fun _=>?_))
   | exact ih0 _ _ _ _ _
   | exact LeO.none _
   | refine LeO.ite ?_ ?_
   | refine LeO.bind ?_ (fun _=>?_)
theorem Qci.mono:∀a0 a1 a2 a3 k,LeO (Qci.f k a0 a1 a2 a3) (Qci.f (k+1) a0 a1 a2 a3):=by
 intro a0 a1 a2 a3 k;have ih0:=Qci.mono_l k;unfold Qci.f
 repeat' first
   |(with_reducible exact ih0 _ _ _ _ _)
   |(with_reducible exact LeO.refl _)
   |(with_reducible exact LeO.none _)
   |(with_reducible refine LeO.ite ?_ ?_)
   |(with_reducible refine LeO.bind ?_ (fun _=>?_))
   | exact ih0 _ _ _ _ _
   | exact LeO.none _
   | refine LeO.ite ?_ ?_
   | refine LeO.bind ?_ (fun _=>?_)
theorem Qci.calls(k:Nat)(g:Bool)(j:Int)(b:ByteArray)(c:ByteArray)(r:Int)(w:World)(h:Qci.f k g j b c=some r) :
  Calls Tryz.prog 58 #[.agg #[.bool g,.int .u64 j,.string b,.string c]] w fun e w'=>e=.returned (.int .i64 r)∧Below w.heap.size w w':=by
 have hu37:=Tryz.underlying37;have HB:=QA (Below.refl w.heap.size w);have H:(if b.toList=([]:List UInt8)then(some 4)else(if(b.size:Int) > 4096 then(some 3)else(if g=true then(Qci.j0 k (c.toList != ([]:List UInt8)) g j b c)else(Qci.j0 k false g j b c))))=some r:=h;clear h
 by_cases c2:b.toList=([]:List UInt8)
 ·rw[if_pos c2]at H;have I:(b.toList == ([]:List UInt8))=true:=beq_iff_eq.mpr c2;have J:(b.toList != ([]:List UInt8))=false:=bne_eq_false_iff_eq.mpr c2;clear c2;obtain rfl:=Option.some.inj H
  go_enter Tryz.func58,Tryz.ntmps58
  go_wp2_with (first |((with_reducible refine Qft (N:=1) rfl ?_);refine qq_e 1 #[.bool g,.int .u64 j,.string b,.string c] 37 ?_;intro d hg w3 hbox hb;have n_:=qn4 (Qfi qq_b hb) (hbox) (qq_s hg:w.heap.size≤d) (qq_s hg:w.heap.size≤d);clear HB;obtain⟨HB,a,o,p⟩:=n_;clear hb hbox hg;obtain⟨K,L,M,O⟩:=qc4 a.out;have af:=Qds a.out))
  go_ret
  exact⟨qq_6,qq_b⟩
 ·rw [if_neg c2]at H;have I:(b.toList == ([]:List UInt8))=false:=beq_eq_false_iff_ne.mpr c2;have J:(b.toList != ([]:List UInt8))=true:=bne_iff_ne.mpr c2
  by_cases c5:(b.size:Int) > 4096
  ·rw[if_pos c5]at H;have P:decide (4096<(b.size:Int))=true:=decide_eq_true c5;have T:decide (4096<b.size)=true:=decide_eq_true (by omega);clear c5;obtain rfl:=Option.some.inj H
   go_enter Tryz.func58,Tryz.ntmps58
   go_wp2_with (first |((with_reducible refine Qft (N:=1) rfl ?_);refine qq_e 1 #[.bool g,.int .u64 j,.string b,.string c] 37 ?_;intro d hg w6 hbox hb;have n_:=qn4 (Qfi qq_b hb) (hbox) (qq_s hg:w.heap.size≤d) (qq_s hg:w.heap.size≤d);clear HB;obtain⟨HB,a,o,p⟩:=n_;clear hb hbox hg;obtain⟨U,W,X,Y⟩:=qc4 a.out;have ag:=Qds a.out))
   go_ret
   exact⟨qq_6,qq_b⟩
  ·rw [if_neg c5]at H;have P:decide (4096<(b.size:Int))=false:=decide_eq_false c5;have T:decide (4096<b.size)=false:=decide_eq_false (by omega);clear c5;have Z:=QA H;clear H
   go_enter Tryz.func58,Tryz.ntmps58
   go_upto_region 5 with(first |((with_reducible refine Qft (N:=1) rfl ?_);refine qq_e 1 #[.bool g,.int .u64 j,.string b,.string c] 37 ?_;intro d hg w9 hbox hb;have n_:=qn4 (Qfi qq_b hb) (hbox) (qq_s hg:w.heap.size≤d) (qq_s hg:w.heap.size≤d);clear HB;obtain⟨HB,a,o,p⟩:=n_;clear hb hbox hg;obtain⟨s,t,u,v⟩:=qc4 a.out;have aa:=Qds a.out))
   (try simp only[Act.put,List.setIfInBounds_toArray,List.set_cons_zero,List.set_cons_succ])
   go_cut [12] (fun ap wc=>∃(kq:Nat) (l:Bool),ap=.bool l∧Aside0 (Qci.j0 kq l g j b c=some r)∧Aside0 (kq≤k)∧Aside0 (wc.heap[d]? = some (.cells #[.bool g,.int .u64 j,.string b,.string c] 37 (0,0)))∧Aside0 (Below w.heap.size w wc))
   case first =>
    have H:=Z.out;clear Z
    by_cases n:g=true
    ·subst n;rw[if_pos rfl]at H;have H':=QA H;clear H;obtain⟨x,y,z,A⟩:=qc4 a.out;have ab:=Qds a.out;go_wp2
     go_meet
     case rel=>exact⟨_,((c.toList != ([]:List UInt8))),(by first|rfl |(simp;done) |(simp[*];done) |(cases c.toList<;>rfl)),H',⟨by first|omega|exact Nat.le_refl _⟩,⟨by(with_reducible repeat(first|apply Qef|apply Qee|apply Qed));exact a.out⟩,⟨qq_b⟩⟩
    ·replace n:=Bool.eq_false_iff.mpr n;subst n;rw[if_neg (show ¬(false=true)by decide)]at H;have H':=QA H;clear H;obtain⟨B,D,E,G⟩:=qc4 a.out;have ac:=Qds a.out;go_wp2
     go_meet
     case rel=>exact⟨_,(false),(by first|rfl |(simp;done) |(simp[*];done) |(cases c.toList<;>rfl)),H',⟨by first|omega|exact Nat.le_refl _⟩,⟨by(with_reducible repeat(first|apply Qef|apply Qee|apply Qed));exact a.out⟩,⟨qq_b⟩⟩
   case rest =>
    clear Z
    try clear c2
    try clear I
    try clear J
    try clear c5
    try clear P
    try clear T
    try clear n
    try clear s
    try clear t
    try clear u
    try clear v
    try clear x
    try clear y
    try clear z
    try clear A
    try clear B
    try clear D
    try clear E
    try clear G
    try clear K
    try clear L
    try clear M
    try clear O
    try clear U
    try clear W
    try clear X
    try clear Y
    try clear aa
    try clear ab
    try clear ac
    try clear af
    try clear ag
    obtain⟨kq,l,rfl,HA,HJ7,a,HB⟩:=hcut
    cases kq with
    | zero=>exact absurd HA.out (by simp[Qci.j0])
    | succ kj7 =>
     have H:=HA.out;clear HA;simp only[Qci.j0]at H
     by_cases q:l=true
     ·subst q;rw[if_pos rfl]at H;obtain rfl:=Option.some.inj H;go_wp2;go_ret
      exact⟨qq_6,qq_b⟩
     ·replace q:=Bool.eq_false_iff.mpr q;subst q;rw[if_neg (show ¬(false=true)by decide)]at H
      by_cases m:(c.size:Int) > 1048576
      ·rw[if_pos m]at H;have ad:decide (1048576<(c.size:Int))=true:=decide_eq_true m;have ae:decide (1048576<c.size)=true:=decide_eq_true (by omega);clear m;obtain rfl:=Option.some.inj H;obtain⟨ah,ai,aj,ak⟩:=qc4 a.out;have aq:=Qds a.out;go_wp2;go_ret
       exact⟨qq_6,qq_b⟩
      ·rw[if_neg m]at H;have ad:decide (1048576<(c.size:Int))=false:=decide_eq_false m;have ae:decide (1048576<c.size)=false:=decide_eq_false (by omega);clear m;obtain rfl:=Option.some.inj H;obtain⟨al,am,an,ao⟩:=qc4 a.out;have ar:=Qds a.out;go_wp2;go_ret
       exact⟨qq_6,qq_b⟩
def Qal.f(a0:Int):Option (Int):=if a0≤0 then(some 1)else(some (wrap64 ((wrap64 (a0+1))+(wrap64 (Int.tdiv (wrap64 (a0-1)) 254)))))
theorem Qal.calls(a0:Int)(r:Int)(w:World)(h:Qal.f a0=some r) :
  Calls Tryz.prog 196 #[.int .i64 a0] w fun e w'=>e=.returned (.int .i64 r)∧Drawn0 w w':=by
 have H:(if a0≤0 then(some 1)else(some (wrap64 ((wrap64 (a0+1))+(wrap64 (Int.tdiv (wrap64 (a0-1)) 254))))))=some r:=h;clear h
 by_cases c2:a0≤0
 ·rw[if_pos c2]at H;have c2b0:=decide_eq_true c2;clear c2;obtain rfl:=Option.some.inj H
  go_enter Tryz.func196,Tryz.ntmps196
  go_wp2;go_ret
  exact⟨by first|rfl |(simp;done) |(simp[*];done),by repeat(first|exact Drawn0.refl _|apply Drawn0.step)⟩
 ·rw[if_neg c2]at H;have c2b0:=decide_eq_false c2;clear c2;obtain rfl:=Option.some.inj H
  go_enter Tryz.func196,Tryz.ntmps196
  go_wp2;go_ret
  exact⟨by first|rfl |(simp;done) |(simp[*];done),by repeat(first|exact Drawn0.refl _|apply Drawn0.step)⟩
def Qac.f(a0:Int)(a1:Int):Option (Int):=if 0≤(Go.bits .and .u64 (IntKind.u64.wrap (a1)) 63)then(if 0≤(IntKind.u64.wrap (64-(Go.bits .and .u64 (IntKind.u64.wrap (a1)) 63)))then(some (Go.bits .or .u64 (shl .u64 a0 (Go.bits .and .u64 (IntKind.u64.wrap (a1)) 63)) (shr .u64 a0 (IntKind.u64.wrap (64-(Go.bits .and .u64 (IntKind.u64.wrap (a1)) 63))))))else(none))else(none)
theorem Qac.calls(a0:Int)(a1:Int)(r:Int)(w:World)(h:Qac.f a0 a1=some r) :
  Calls Tryz.prog 201 #[.int .u64 a0,.int .i64 a1] w fun e w'=>e=.returned (.int .u64 r)∧Drawn0 w w':=by
 have H:(if 0≤(Go.bits .and .u64 (IntKind.u64.wrap (a1)) 63)then(if 0≤(IntKind.u64.wrap (64-(Go.bits .and .u64 (IntKind.u64.wrap (a1)) 63)))then(some (Go.bits .or .u64 (shl .u64 a0 (Go.bits .and .u64 (IntKind.u64.wrap (a1)) 63)) (shr .u64 a0 (IntKind.u64.wrap (64-(Go.bits .and .u64 (IntKind.u64.wrap (a1)) 63))))))else(none))else(none))=some r:=h;clear h;obtain⟨a,j⟩:∃j_:Int,(Go.bits .and .u64 (IntKind.u64.wrap (a1)) 63)=j_:=⟨_,rfl⟩;replace H:(if 0≤(a)then(if 0≤(IntKind.u64.wrap (64-(a)))then(some (Go.bits .or .u64 (shl .u64 a0 (a)) (shr .u64 a0 (IntKind.u64.wrap (64-(a))))))else(none))else(none))=some r:=by first |(rw[j]at H;exact H) |(simp only[j]at H ⊢;exact H)
 by_cases c4:0≤(a)
 ·rw[if_pos c4]at H;have q:=eq_true c4;have s:=decide_eq_true c4;clear c4;obtain⟨g,b⟩:∃j_:Int,(shl .u64 a0 (a))=j_:=⟨_,rfl⟩;replace H:(if 0≤(IntKind.u64.wrap (64-(a)))then(some (Go.bits .or .u64 (g) (shr .u64 a0 (IntKind.u64.wrap (64-(a))))))else(none))=some r:=by first |(rw[b]at H;exact H) |(simp only[b]at H ⊢;exact H)
  have m:(IntKind.u64.wrap (a0*2^min (a).toNat 64))=g:=b;have n:(a)≤64→(IntKind.u64.wrap (a0*2^(a).toNat))=g:=Qio b;obtain⟨c,k⟩:∃j_:Int,(IntKind.u64.wrap (64-(a)))=j_:=⟨_,rfl⟩;replace H:(if 0≤(c)then(some (Go.bits .or .u64 (g) (shr .u64 a0 (c))))else(none))=some r:=by first |(rw[k]at H;exact H) |(simp only[k]at H ⊢;exact H)
  by_cases c7:0≤(c)
  ·rw[if_pos c7]at H;have t:=eq_true c7;have u:=decide_eq_true c7;clear c7;obtain⟨l,d⟩:∃j_:Int,(shr .u64 a0 (c))=j_:=⟨_,rfl⟩;replace H:(some (Go.bits .or .u64 (g) (l)))=some r:=by first |(rw[d]at H;exact H) |(simp only[d]at H ⊢;exact H)
   have o:(a0/2^min (c).toNat 64)=l:=d;have p:(c)≤64→(a0/2^(c).toNat)=l:=Qip d;obtain rfl:=Option.some.inj H
   go_enter Tryz.func201,Tryz.ntmps201
   go_wp2;go_ret
   exact⟨by first|rfl |(simp;done) |(simp only[← j,← b,← k,← d]<;>(first|rfl|simp)) |(simp[*];done),by repeat(first|exact Drawn0.refl _|apply Drawn0.step)⟩
  ·rw[if_neg c7]at H;exact absurd H (by simp)
 ·rw[if_neg c4]at H;exact absurd H (by simp)
def Qcp.f(a0:Int)(a1:Int):Option (Int):=(Qac.f (IntKind.u64.wrap (a0+(IntKind.u64.wrap (a1*14029467366897019727)))) 31).bind fun t103=>(some (IntKind.u64.wrap (t103*11400714785074694791)))
theorem Qcp.calls(a0:Int)(a1:Int)(r:Int)(w:World)(h:Qcp.f a0 a1=some r) :
  Calls Tryz.prog 198 #[.int .u64 a0,.int .u64 a1] w fun e w'=>e=.returned (.int .u64 r)∧Drawn0 w w':=by
 have H:((Qac.f (IntKind.u64.wrap (a0+(IntKind.u64.wrap (a1*14029467366897019727)))) 31).bind fun t103=>(some (IntKind.u64.wrap (t103*11400714785074694791))))=some r:=h;clear h;replace H:=Option.bind_eq_some_iff.mp H;obtain⟨t103,A30,H⟩:=H;have A3:=QA A30;clear A30;obtain rfl:=Option.some.inj H
 go_enter Tryz.func198,Tryz.ntmps198
 go_wp2_with (first |((with_reducible refine Qim (f:=201) rfl ?_);refine Qgo (some 9) rfl rfl Tryz.func201 qq_4 rfl #[.int .u64 (IntKind.u64.wrap (a0+(IntKind.u64.wrap (a1*14029467366897019727)))),.int .i64 31] rfl qq_1 ?_;(with_reducible refine(Qac.calls (IntKind.u64.wrap (a0+(IntKind.u64.wrap (a1*14029467366897019727)))) 31 t103 _ A3.out).mono ?_);rintro e w' ⟨rfl,⟨nd,rfl⟩⟩;refine⟨_,rfl,?_⟩))
 go_ret
 exact⟨by first|rfl |(simp;done) |(simp[*];done),by repeat(first|exact Drawn0.refl _|apply Drawn0.step)⟩
def Qcq.l0:Nat→List Int→Int→Int→Int→Option (Int)
 | 0,_,_,_,_=>none
 | k+1,x0,x5,x7,x8=>if x8<x7 then(if 0≤x8 then(if x8<(x0.length:Int)then(if 0≤(wrap64 (8*x8))then(Qcq.l0 k x0 (Go.bits .or .u64 x5 (shl .u64 (IntKind.u64.wrap (rd x0 x8)) (wrap64 (8*x8)))) x7 (wrap64 (x8+1)))else(none))else(none))else(none))else(some x5)
def Qcq.f(k:Nat)(l0:List Int)(a1:Int):Option (Int):=Qcq.l0 k l0 0 a1 0
theorem Qcq.calls(k:Nat)(A0:Option Addr)(c0:Nat)(l0:List Int)(a1:Int)(r:Int)(w:World)(hr0:Kd.C (Kd.int .u8) w A0 l0.length l0)(hc0:l0.length≤c0)(h:Qcq.f k l0 a1=some r) :
  Calls Tryz.prog 199 #[.slice A0 l0.length c0,.int .i64 a1] w fun e w'=>e=.returned (.int .u64 r)∧Drawn0 w w':=by
 have q:=QA hr0;have B:=QA hc0;clear hr0 hc0;have H:(Qcq.l0 k l0 0 a1 0)=some r:=h;clear h;have H':=QA H;clear H
 go_enter Tryz.func199,Tryz.ntmps199
 go_wp2
 go_loopg [5,8] k (fun kq v5 v8 w'=>∃(b:Int) (a:Int),v5=.int .u64 b∧v8=.int .i64 a∧Aside0 (Qcq.l0 kq l0 b a1 a=some r)∧Aside0 (kq≤k)∧Drawn0 w w')
 case atStart=>exact⟨(0),(0),qq_5,qq_5,H',⟨Nat.le_refl _⟩,by repeat(first|exact Drawn0.refl _|apply Drawn0.step)⟩
 case round =>
  clear H';obtain⟨b,a,rfl,rfl,HA,HK1,⟨m1,rfl⟩⟩:=hrel
  cases gk with
  | zero=>exact absurd HA.out (by simp[Qcq.l0])
  | succ k1 =>
   have H:=HA.out;clear HA;simp only[Qcq.l0]at H
   by_cases c3:a<a1
   ·rw [if_pos c3]at H;have n:=decide_eq_true c3;clear c3
    by_cases c4:0≤a
    ·rw[if_pos c4]at H;have x:=decide_eq_true c4;clear c4
     by_cases c5:a<(l0.length:Int)
     ·rw[if_pos c5]at H;have y:=decide_eq_true c5;clear c5;obtain⟨c,g⟩:∃j_:Int,(wrap64 (8*a))=j_:=⟨_,rfl⟩;replace H:(if 0≤(c)then(Qcq.l0 k1 l0 (Go.bits .or .u64 b (shl .u64 (IntKind.u64.wrap (rd l0 a)) (c))) a1 (wrap64 (a+1)))else(none))=some r:=by first |(rw[g]at H;exact H) |(simp only[g]at H ⊢;exact H)
      have s:(IntKind.i64.wrap (8*a))=c:=(Qgq _).trans g
      by_cases c7:0≤(c)
      ·rw[if_pos c7]at H;have z:=eq_true c7;have A:=decide_eq_true c7;clear c7;obtain⟨m,d⟩:∃j_:Int,(shl .u64 (IntKind.u64.wrap (rd l0 a)) (c))=j_:=⟨_,rfl⟩;replace H:(Qcq.l0 k1 l0 (Go.bits .or .u64 b (m)) a1 (wrap64 (a+1)))=some r:=by first |(rw[d]at H;exact H) |(simp only[d]at H ⊢;exact H)
       have t:(IntKind.u64.wrap ((IntKind.u64.wrap (rd l0 a))*2^min (c).toNat 64))=m:=d;have u:(c)≤64→(IntKind.u64.wrap ((IntKind.u64.wrap (rd l0 a))*2^(c).toNat))=m:=Qio d;have H':=QA H;clear H;have j:0≤(a:Int):=of_decide_eq_true qq_2;have l:a<(l0.length:Int):=of_decide_eq_true qq_2;obtain⟨v,o,p⟩:=Kd.at_int q.out a j l
       cases o
       replace j:=eq_true j;replace l:=eq_true l;go_wp2
       go_roundg k1
       case measure=>have:=HK1.out;omega
       case rel=>exact⟨(Go.bits .or .u64 b (m)),(wrap64 (a+1)),(by first|rfl |(simp;done) |(simp only[← d]<;>(first|rfl|simp)) |(simp[*];done)),qq_5,H',⟨by have:=HK1.out;omega⟩,by repeat(first|exact Drawn0.refl _|apply Drawn0.step)⟩
      ·rw[if_neg c7]at H;exact absurd H (by simp)
     ·rw[if_neg c5]at H;exact absurd H (by simp)
    ·rw[if_neg c4]at H;exact absurd H (by simp)
   ·rw[if_neg c3]at H;have n:=decide_eq_false c3;clear c3;obtain rfl:=Option.some.inj H;go_wp2;go_ret
    exact⟨by first|rfl |(simp;done) |(simp[*];done),by repeat(first|exact Drawn0.refl _|apply Drawn0.step)⟩
def Qbx.f(a0_0:Int)(a0_1:Int)(a1:Int):Option (Int):=(Qao.f a0_0 a0_1).bind fun t166=>(if t166=0 then(if a1≥a0_1 then(some 1)else(some 0))else(some 1))
theorem Qbx.calls(c:Int)(b:Int)(a1:Int)(r:Int)(w:World)(h:Qbx.f c b a1=some r) :
  Calls Tryz.prog 100 #[.agg #[.int .u8 c,.int .u32 b],.int .u32 a1] w fun e w'=>e=.returned (.int .i64 r)∧Below w.heap.size w w':=by
 have hu28:=Tryz.underlying28;have HB:=QA (Below.refl w.heap.size w);have H:((Qao.f c b).bind fun j=>(if j=0 then(if a1≥b then(some 1)else(some 0))else(some 1)))=some r:=h;clear h;replace H:=Option.bind_eq_some_iff.mp H;obtain⟨j,m,H⟩:=H;have A3:=QA m;clear m
 by_cases c4:j=0
 ·rw[if_pos c4]at H;have n:(j == 0)=true:=beq_iff_eq.mpr c4;have p:(j != 0)=false:=bne_eq_false_iff_eq.mpr c4;clear c4
  by_cases c5:a1≥b
  ·rw[if_pos c5]at H;have q:decide (b≤a1)=true:=decide_eq_true c5;clear c5;obtain rfl:=Option.some.inj H
   go_enter Tryz.func100,Tryz.ntmps100
   go_wp2_with (first |((with_reducible refine Qft (N:=2) rfl ?_);refine qq_e 2 #[.int .u8 c,.int .u32 b] 28 ?_;intro d hg w6 hbox hb;have n_:=qn4 (Qfi qq_b hb) (hbox) (qq_s hg:w.heap.size≤d) (qq_s hg:w.heap.size≤d);clear HB;obtain⟨HB,a,k,l⟩:=n_;clear hb hbox hg;obtain⟨z,A⟩:=qc2 a.out;have J:=Qds a.out) |((with_reducible refine Qim (f:=118) rfl ?_);refine Qgo (some 6) rfl rfl Tryz.func118 qq_4 rfl #[.agg #[.int .u8 c,.int .u32 b]] rfl qq_1 ?_;(with_reducible refine(Qao.calls c b j _ A3.out).mono ?_);rintro e w8 ⟨rfl,hb⟩;refine⟨_,rfl,?_⟩;have n_:=qn2 (Qeg (g:=d) (o:=.cells #[.int .u8 c,.int .u32 b] 28 (0,0)) qq_0 hb) (Qfi qq_b hb);clear a HB;obtain⟨a,HB⟩:=n_;(try clear hb);(try clear hb2);(try clear hk);(try clear hi);obtain⟨B,D⟩:=qc2 a.out;have K:=Qds a.out))
   go_ret
   exact⟨qq_6,qq_b⟩
  ·rw[if_neg c5]at H;have q:decide (b≤a1)=false:=decide_eq_false c5;clear c5;obtain rfl:=Option.some.inj H
   go_enter Tryz.func100,Tryz.ntmps100
   go_wp2_with (first |((with_reducible refine Qft (N:=2) rfl ?_);refine qq_e 2 #[.int .u8 c,.int .u32 b] 28 ?_;intro d hg L hbox hb;have n_:=qn4 (Qfi qq_b hb) (hbox) (qq_s hg:w.heap.size≤d) (qq_s hg:w.heap.size≤d);clear HB;obtain⟨HB,a,k,l⟩:=n_;clear hb hbox hg;obtain⟨s,t⟩:=qc2 a.out;have E:=Qds a.out) |((with_reducible refine Qim (f:=118) rfl ?_);refine Qgo (some 6) rfl rfl Tryz.func118 qq_4 rfl #[.agg #[.int .u8 c,.int .u32 b]] rfl qq_1 ?_;(with_reducible refine(Qao.calls c b j _ A3.out).mono ?_);rintro e M ⟨rfl,hb⟩;refine⟨_,rfl,?_⟩;have n_:=qn2 (Qeg (g:=d) (o:=.cells #[.int .u8 c,.int .u32 b] 28 (0,0)) qq_0 hb) (Qfi qq_b hb);clear a HB;obtain⟨a,HB⟩:=n_;(try clear hb);(try clear hb2);(try clear hk);(try clear hi);obtain⟨u,v⟩:=qc2 a.out;have G:=Qds a.out))
   go_ret
   exact⟨qq_6,qq_b⟩
 ·rw[if_neg c4]at H;have n:(j == 0)=false:=beq_eq_false_iff_ne.mpr c4;have p:(j != 0)=true:=bne_iff_ne.mpr c4;obtain rfl:=Option.some.inj H
  go_enter Tryz.func100,Tryz.ntmps100
  go_wp2_with (first |((with_reducible refine Qft (N:=2) rfl ?_);refine qq_e 2 #[.int .u8 c,.int .u32 b] 28 ?_;intro d hg O hbox hb;have n_:=qn4 (Qfi qq_b hb) (hbox) (qq_s hg:w.heap.size≤d) (qq_s hg:w.heap.size≤d);clear HB;obtain⟨HB,a,k,l⟩:=n_;clear hb hbox hg;obtain⟨x,y⟩:=qc2 a.out;have I:=Qds a.out) |((with_reducible refine Qim (f:=118) rfl ?_);refine Qgo (some 6) rfl rfl Tryz.func118 qq_4 rfl #[.agg #[.int .u8 c,.int .u32 b]] rfl qq_1 ?_;(with_reducible refine(Qao.calls c b j _ A3.out).mono ?_);rintro e P ⟨rfl,hb⟩;refine⟨_,rfl,?_⟩;have n_:=qn2 (Qeg (g:=d) (o:=.cells #[.int .u8 c,.int .u32 b] 28 (0,0)) qq_0 hb) (Qfi qq_b hb);clear a HB;obtain⟨a,HB⟩:=n_;(try clear hb);(try clear hb2);(try clear hk);(try clear hi)))
  go_ret
  exact⟨qq_6,qq_b⟩
def Qap.f(a0_0:Int)(a0_1:Int):Option (Int):=(Qao.f a0_0 a0_1).bind fun t174=>(if t174=0 then(if 0≤a0_0 then(some (shl .i64 1 a0_0))else(none))else(some 0))
theorem Qap.calls(a:Int)(c:Int)(r:Int)(w:World)(h:Qap.f a c=some r) :
  Calls Tryz.prog 66 #[.agg #[.int .u8 a,.int .u32 c]] w fun e w'=>e=.returned (.int .i64 r)∧Below w.heap.size w w':=by
 have hu28:=Tryz.underlying28;have HB:=QA (Below.refl w.heap.size w);have H:((Qao.f a c).bind fun d=>(if d=0 then(if 0≤a then(some (shl .i64 1 a))else(none))else(some 0)))=some r:=h;clear h;replace H:=Option.bind_eq_some_iff.mp H;obtain⟨d,s,H⟩:=H;have A2:=QA s;clear s
 by_cases c3:d=0
 ·rw[if_pos c3]at H;have t:(d == 0)=true:=beq_iff_eq.mpr c3;have u:(d != 0)=false:=bne_eq_false_iff_eq.mpr c3;clear c3
  by_cases c4:0≤a
  ·rw[if_pos c4]at H;have K:=eq_true c4;have L:=decide_eq_true c4;clear c4;obtain⟨l,k⟩:∃j_:Int,(shl .i64 1 a)=j_:=⟨_,rfl⟩;replace H:(some l)=some r:=by first |(rw[k]at H;exact H) |(simp only[k]at H ⊢;exact H)
   (try rw[k]at A2)
   have m:(IntKind.i64.wrap (1*2^min a.toNat 64))=l:=k;have n:a≤64→(IntKind.i64.wrap (1*2^a.toNat))=l:=Qio k;have D:(IntKind.i64.wrap (2^min a.toNat 64))=l:=by have h_:=m;rw[Int.one_mul]at h_;exact h_
   have E:a≤64→(IntKind.i64.wrap (2^a.toNat))=l:=fun hle_=>by have h_:=n hle_;rw[Int.one_mul]at h_;exact h_
   have G:(wrap64 (1*2^min a.toNat 64))=l:=(Qgq _).symm.trans m;have I:a≤64→(wrap64 (1*2^a.toNat))=l:=fun h_=>(Qgq _).symm.trans (n h_)
   obtain rfl:=Option.some.inj H
   go_enter Tryz.func66,Tryz.ntmps66
   go_wp2_with (first |((with_reducible refine Qft (N:=1) rfl ?_);refine qq_e 1 #[.int .u8 a,.int .u32 c] 28 ?_;intro j hg w6 hbox hb;have n_:=qn4 (Qfi qq_b hb) (hbox) (qq_s hg:w.heap.size≤j) (qq_s hg:w.heap.size≤j);clear HB;obtain⟨HB,b,p,q⟩:=n_;clear hb hbox hg;obtain⟨y,z⟩:=qc2 b.out;have M:=Qds b.out) |((with_reducible refine Qim (f:=118) rfl ?_);refine Qgo (some 4) rfl rfl Tryz.func118 qq_4 rfl #[.agg #[.int .u8 a,.int .u32 c]] rfl qq_1 ?_;(with_reducible refine(Qao.calls a c d _ A2.out).mono ?_);rintro e w8 ⟨rfl,hb⟩;refine⟨_,rfl,?_⟩;have n_:=qn2 (Qeg (g:=j) (o:=.cells #[.int .u8 a,.int .u32 c] 28 (0,0)) qq_0 hb) (Qfi qq_b hb);clear b HB;obtain⟨b,HB⟩:=n_;(try clear hb);(try clear hb2);(try clear hk);(try clear hi);obtain⟨A,B⟩:=qc2 b.out;have O:=Qds b.out))
   go_ret
   exact⟨by first|rfl |(simp[Qir,Qis]<;>rfl) |(simp only[← k];first|rfl |(simp[Qir,Qis]<;>rfl)) |(simp[*,Qir,Qis]<;>rfl),qq_b⟩
  ·rw[if_neg c4]at H;exact absurd H (by simp)
 ·rw[if_neg c3]at H;have t:(d == 0)=false:=beq_eq_false_iff_ne.mpr c3;have u:(d != 0)=true:=bne_iff_ne.mpr c3;obtain rfl:=Option.some.inj H
  go_enter Tryz.func66,Tryz.ntmps66
  go_wp2_with (first |((with_reducible refine Qft (N:=1) rfl ?_);refine qq_e 1 #[.int .u8 a,.int .u32 c] 28 ?_;intro j hg P hbox hb;have n_:=qn4 (Qfi qq_b hb) (hbox) (qq_s hg:w.heap.size≤j) (qq_s hg:w.heap.size≤j);clear HB;obtain⟨HB,b,p,q⟩:=n_;clear hb hbox hg;obtain⟨v,x⟩:=qc2 b.out;have J:=Qds b.out) |((with_reducible refine Qim (f:=118) rfl ?_);refine Qgo (some 4) rfl rfl Tryz.func118 qq_4 rfl #[.agg #[.int .u8 a,.int .u32 c]] rfl qq_1 ?_;(with_reducible refine(Qao.calls a c d _ A2.out).mono ?_);rintro e T ⟨rfl,hb⟩;refine⟨_,rfl,?_⟩;have n_:=qn2 (Qeg (g:=j) (o:=.cells #[.int .u8 a,.int .u32 c] 28 (0,0)) qq_0 hb) (Qfi qq_b hb);clear b HB;obtain⟨b,HB⟩:=n_;(try clear hb);(try clear hb2);(try clear hk);(try clear hi)))
  go_ret
  exact⟨qq_6,qq_b⟩
def Qbp.f(a0:Int):Option (Int):=some (wrap64 (Int.tdiv (wrap64 ((wrap64 ((mx 0 a0)+16))-1)) 16))
theorem Qbp.calls(a0:Int)(r:Int)(w:World)(h:Qbp.f a0=some r) :
  Calls Tryz.prog 182 #[.int .i64 a0] w fun e w'=>e=.returned (.int .i64 r)∧Below w.heap.size w w':=by
 have HB:=QA (Below.refl w.heap.size w);have H:(some (wrap64 (Int.tdiv (wrap64 ((wrap64 ((mx 0 a0)+16))-1)) 16)))=some r:=h;clear h;obtain⟨ji2,hji2⟩:∃j_:Int,(mx 0 a0)=j_:=⟨_,rfl⟩;replace H:(some (wrap64 (Int.tdiv (wrap64 ((wrap64 ((ji2)+16))-1)) 16)))=some r:=by first |(rw[hji2]at H;exact H) |(simp only[hji2]at H ⊢;exact H)
 (try(have hji2l:0≤ji2:=by(rw[← hji2];unfold mx;(repeat' split)<;>omega)))
 (try(have hji2m:0≤ji2:=by omega))
 have hji2_:(if 0<a0 then a0 else 0)=ji2:=hji2;obtain rfl:=Option.some.inj H
 go_enter Tryz.func182,Tryz.ntmps182
 go_wp2;go_ret
 exact⟨by first|rfl |(simp[Qir,Qis]<;>rfl) |(simp only[← hji2];first|rfl |(simp[Qir,Qis]<;>rfl)) |(simp[*,Qir,Qis]<;>rfl),qq_b⟩
def Qbw.f(a0:Int):Option (Int):=(Qal.f (wrap64 ((mx 0 a0)+8))).bind fun t186=>(some (wrap64 (t186+1)))
theorem Qbw.calls(a0:Int)(r:Int)(w:World)(h:Qbw.f a0=some r) :
  Calls Tryz.prog 228 #[.int .i64 a0] w fun e w'=>e=.returned (.int .i64 r)∧Below w.heap.size w w':=by
 have HB:=QA (Below.refl w.heap.size w);have H:((Qal.f (wrap64 ((mx 0 a0)+8))).bind fun t186=>(some (wrap64 (t186+1))))=some r:=h;clear h;obtain⟨ji2,hji2⟩:∃j_:Int,(mx 0 a0)=j_:=⟨_,rfl⟩;replace H:((Qal.f (wrap64 ((ji2)+8))).bind fun t186=>(some (wrap64 (t186+1))))=some r:=by first |(rw[hji2]at H;exact H) |(simp only[hji2]at H ⊢;exact H)
 (try(have hji2l:0≤ji2:=by(rw[← hji2];unfold mx;(repeat' split)<;>omega)))
 (try(have hji2m:0≤ji2:=by omega))
 have hji2_:(if 0<a0 then a0 else 0)=ji2:=hji2;replace H:=Option.bind_eq_some_iff.mp H;obtain⟨t186,A30,H⟩:=H;have A3:=QA A30;clear A30;obtain rfl:=Option.some.inj H
 go_enter Tryz.func228,Tryz.ntmps228
 go_wp2_with (first |((with_reducible refine Qim (f:=196) rfl ?_);refine Qgo (some 6) rfl rfl Tryz.func196 qq_4 rfl #[.int .i64 (wrap64 ((ji2)+8))] rfl qq_25 ?_;(with_reducible refine(Qal.calls (wrap64 ((ji2)+8)) t186 _ A3.out).mono ?_);rintro e w' ⟨rfl,⟨nd,rfl⟩⟩;refine⟨_,rfl,?_⟩))
 go_ret
 exact⟨by first|rfl |(simp[Qir,Qis]<;>rfl) |(simp only[← hji2];first|rfl |(simp[Qir,Qis]<;>rfl)) |(simp[*,Qir,Qis]<;>rfl),qq_b⟩
def Qbq.f(a0:Int):Option (Int):=(Qbp.f (mx 0 a0)).bind fun t187=>((Qbw.f (wrap64 ((wrap64 (9+(wrap64 (12*(mx 0 a0)))))+(wrap64 (8*t187))))).bind fun t188=>(some t188))
theorem Qbq.calls(a0:Int)(r:Int)(w:World)(h:Qbq.f a0=some r) :
  Calls Tryz.prog 197 #[.int .i64 a0] w fun e w'=>e=.returned (.int .i64 r)∧Below w.heap.size w w':=by
 have HB:=QA (Below.refl w.heap.size w);have H:((Qbp.f (mx 0 a0)).bind fun a=>((Qbw.f (wrap64 ((wrap64 (9+(wrap64 (12*(mx 0 a0)))))+(wrap64 (8*a))))).bind fun c=>(some c)))=some r:=h;clear h;obtain⟨b,hji2⟩:∃j_:Int,(mx 0 a0)=j_:=⟨_,rfl⟩;replace H:((Qbp.f (b)).bind fun a=>((Qbw.f (wrap64 ((wrap64 (9+(wrap64 (12*(b)))))+(wrap64 (8*a))))).bind fun c=>(some c)))=some r:=by first |(rw[hji2]at H;exact H) |(simp only[hji2]at H ⊢;exact H)
 (try(have j:0≤b:=by(rw[← hji2];unfold mx;(repeat' split)<;>omega)))
 (try(have k:0≤b:=by omega))
 have l:(if 0<a0 then a0 else 0)=b:=hji2;replace H:=Option.bind_eq_some_iff.mp H;obtain⟨a,d,H⟩:=H;have A3:=QA d;clear d;replace H:=Option.bind_eq_some_iff.mp H;obtain⟨c,g,H⟩:=H;have A4:=QA g;clear g;obtain rfl:=Option.some.inj H
 go_enter Tryz.func197,Tryz.ntmps197
 go_wp2_with (first |((with_reducible refine Qim (f:=182) rfl ?_);refine Qgo (some 9) rfl rfl Tryz.func182 qq_4 rfl #[.int .i64 b] rfl qq_25 ?_;(with_reducible refine(Qbp.calls b a _ A3.out).mono ?_);rintro e w5 ⟨rfl,hb⟩;refine⟨_,rfl,?_⟩;have n_:=qn1 (Qfi qq_b hb);clear HB;have HB:=n_;clear n_;(try clear hb);(try clear hb2);(try clear hk);(try clear hi)) |((with_reducible refine Qim (f:=228) rfl ?_);refine Qgo (some 12) rfl rfl Tryz.func228 qq_4 rfl #[.int .i64 (wrap64 ((wrap64 (9+(wrap64 (12*(b)))))+(wrap64 (8*a))))] rfl qq_25 ?_;(with_reducible refine(Qbw.calls (wrap64 ((wrap64 (9+(wrap64 (12*(b)))))+(wrap64 (8*a)))) c _ A4.out).mono ?_);rintro e w6 ⟨rfl,hb⟩;refine⟨_,rfl,?_⟩;have n_:=qn1 (Qfi qq_b hb);clear HB;have HB:=n_;clear n_;(try clear hb);(try clear hb2);(try clear hk);(try clear hi)))
 go_ret
 exact⟨by first|rfl |(simp[Qir,Qis]<;>rfl) |(simp only[← hji2];first|rfl |(simp[Qir,Qis]<;>rfl)) |(simp[*,Qir,Qis]<;>rfl),qq_b⟩
def Qce.f(a0_0:Int)(a0_1:Int)(a0_2:Int)(a0_3:Int)(a0_4:Int):Option (Int):=(Qap.f a0_0 a0_1).bind fun t190=>((Qbq.f (wrap64 (a0_4+1))).bind fun t191=>(some (mx 0 (wrap64 ((wrap64 (t190-a0_3))-t191)))))
def Qce.T1:Bool × List (List Nat × List Nat):=(true,[([],[]),([0],[0]),([1],[1]),([],[]),([3],[3]),([2,4],[2,4]),([],[]),([6],[6]),([7],[7]),([8,2],[8]),([5,9],[5,9]),([10],[10]),([11,9,0,1,2,3,4,5,6,7,8,9,10,11],[11])])
def Qce.B1:List Nat:=[0,1,3,0,8,31,0,64,192,455,1023,2047,4095]
theorem Qce.tab1:rtab .any (Qhw Tryz.f153 1)=Qce.T1:=by kernel_rfl
theorem Qce.bits1:Qhq Qce.T1.2 Qce.B1=true:=by kernel_rfl
theorem Qce.calls(d:Int)(j:Int)(p:Int)(c:Int)(k:Int)(r:Int)(w:World)(h:Qce.f d j p c k=some r) :
  Calls Tryz.prog 153 #[.agg #[.int .u8 d,.int .u32 j,.int .u32 p,.int .i64 c,.int .i64 k]] w fun e w'=>e=.returned (.int .i64 r)∧Below w.heap.size w w':=by
 have hu116:=Tryz.underlying116;have hu28:=Tryz.underlying28;have HB:=QA (Below.refl w.heap.size w);have H:((Qap.f d j).bind fun q=>((Qbq.f (wrap64 (k+1))).bind fun s=>(some (mx 0 (wrap64 ((wrap64 (q-c))-s))))))=some r:=h;clear h;replace H:=Option.bind_eq_some_iff.mp H;obtain⟨q,u,H⟩:=H;have A2:=QA u;clear u;replace H:=Option.bind_eq_some_iff.mp H;obtain⟨s,v,H⟩:=H;have A3:=QA v;clear v;obtain⟨t,m⟩:∃j_:Int,(mx 0 (wrap64 ((wrap64 (q-c))-s)))=j_:=⟨_,rfl⟩;replace H:(some t)=some r:=by first |(rw[m]at H;exact H) |(simp only[m]at H ⊢;exact H)
 (try rw[m]at A2)
 (try rw[m]at A3)
 (try(have x:0≤t:=by(rw[← m];unfold mx;(repeat' split)<;>omega)))
 (try(have y:0≤t:=by omega))
 have z:(if 0<(wrap64 ((wrap64 (q-c))-s))then(wrap64 ((wrap64 (q-c))-s))else 0)=t:=m;obtain rfl:=Option.some.inj H
 go_enter Tryz.func153,Tryz.ntmps153
 try go_wp2_with (first |((with_reducible refine Qft (N:=1) rfl ?_);refine qq_e 1 #[.int .u8 d,.int .u32 j,.int .u32 p,.int .i64 c,.int .i64 k] 116 ?_;intro b hg w5 hbox hb;have n_:=qn4 (Qfi qq_b hb) (hbox) (qq_s hg:w.heap.size≤b) (qq_s hg:w.heap.size≤b);clear HB;obtain⟨HB,a,A,B⟩:=n_;clear hb hbox hg))
 have n_:=qn2 (Qee a.out) (Qfo HB.out);clear a HB;obtain⟨a,HB⟩:=n_;refine Qgf (n:=13) (S:=fun w'=>w'.cell? ⟨b,0,none⟩=some (.int .u8 d)∧w'.cell? ⟨b,1,none⟩=some (.int .u32 j)∧w'.cell? ⟨b,2,none⟩=some (.int .u32 p)∧w'.cell? ⟨b,3,none⟩=some (.int .i64 c)∧w'.cell? ⟨b,4,none⟩=some (.int .i64 k)) (ds:=[]) (bm 13 0) qq_4 rfl rfl ⟨(Qdr a.out 0).trans rfl,(Qdr a.out 1).trans rfl,(Qdr a.out 2).trans rfl,(Qdr a.out 3).trans rfl,(Qdr a.out 4).trans rfl⟩ (fun l=>?_);refine Qhu Qce.tab1 Qce.bits1 (fun HT_ HW_=>?_);generalize w5.drew=w6 at a HB l ⊢;refine pz_ (i:=0) (N:=some 3) (bm 13 1) (Qhm HT_.out qq_4) ?_;refine pz_ (i:=3) (N:=some 6) (bm 13 9) (Qhm HT_.out qq_4) ?_;refine pz_ (i:=6) (N:=some 9) (bm 13 73) (Qhm HT_.out qq_4) ?_;refine tz_ (i:=1) (N:=some 4) (bm 13 75) (Qht HT_.out HW_.out qq_4) l ?_;refine tz_ (i:=4) (N:=some 7) (bm 13 91) (Qht HT_.out HW_.out qq_4) l ?_;refine tz_ (i:=7) (N:=some 10) (bm 13 219) (Qht HT_.out HW_.out qq_4) l ?_;refine pz_ (i:=8) (N:=some 11) (bm 13 475) (Qhm HT_.out qq_4) ?_;refine one_ (i:=2) (N:=some 5) (bm 13 479) rfl rfl (Qhn HT_.out qq_4) (by decide) (fun K hK=>?_);refine Qgn Tryz.func66 qq_4 rfl #[.agg #[.int .u8 d,.int .u32 j]] (by rfl) rfl rfl qq_1 ?_;with_reducible refine(Qap.calls d j q _ A2.out).mono ?_
 rintro e w7 ⟨rfl,hb⟩;refine⟨_,rfl,?_⟩;have n_:=qn2 (Qeg (g:=b) (o:=.cells #[.int .u8 d,.int .u32 j,.int .u32 p,.int .i64 c,.int .i64 k] 116 (0,0)) qq_0 hb) (Qfi qq_b hb);clear a HB;obtain⟨a,HB⟩:=n_
 (try clear hb)
 (try clear hb2)
 (try clear hk)
 (try clear hi)
 refine hK.out _ _ ⟨(Qdr a.out 0).trans rfl,(Qdr a.out 1).trans rfl,(Qdr a.out 2).trans rfl,(Qdr a.out 3).trans rfl,(Qdr a.out 4).trans rfl⟩ (fun l=>?_);clear hK K;refine nzp_ 5 ?_;refine pz_ (i:=5) (N:=some 8) (bm 13 511) (Qhm HT_.out qq_4) ?_;refine one_ (i:=9) (N:=some 12) (bm 13 1023) rfl rfl (Qhn HT_.out qq_4) (by decide) (fun K hK=>?_);refine Qgn Tryz.func197 qq_4 rfl #[.int .i64 (wrap64 (k+1))] (by rfl) rfl rfl qq_1 ?_;with_reducible refine(Qbq.calls (wrap64 (k+1)) s _ A3.out).mono ?_
 rintro e w8 ⟨rfl,hb⟩;refine⟨_,rfl,?_⟩;have n_:=qn2 (Qeg (g:=b) (o:=.cells #[.int .u8 d,.int .u32 j,.int .u32 p,.int .i64 c,.int .i64 k] 116 (0,0)) qq_0 hb) (Qfi qq_b hb);clear a HB;obtain⟨a,HB⟩:=n_
 (try clear hb)
 (try clear hb2)
 (try clear hk)
 (try clear hi)
 refine hK.out _ _ ⟨(Qdr a.out 0).trans rfl,(Qdr a.out 1).trans rfl,(Qdr a.out 2).trans rfl,(Qdr a.out 3).trans rfl,(Qdr a.out 4).trans rfl⟩ (fun l=>?_);clear hK K;refine nzp_ 12 ?_;refine pz_ (i:=10) (N:=some 13) (bm 13 2047) (Qhm HT_.out qq_4) ?_;refine pz_ (i:=11) (N:=some 14) (bm 13 4095) (Qhm HT_.out qq_4) ?_;refine pz_ (i:=12) (N:=some 2) (bm 13 8191) (Qhm HT_.out qq_4) ?_;refine Qgj (Qhp HT_.out qq_4) ?_
 try go_wp2
 go_ret
 exact⟨by first|rfl |(simp[Qir,Qis]<;>rfl) |(simp only[← m];first|rfl |(simp[Qir,Qis]<;>rfl)) |(simp[*,Qir,Qis]<;>rfl),qq_b⟩
end Go.Proofs.YteaocbonofboeaaGreat.C
end
