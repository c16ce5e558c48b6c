/- Merged texts. -/
import Derived.Test.YteaocbonofboeaaGreatMC14
import Derived.Test.YteaocbonofboeaaGreatMC13
import Derived.Test.YteaocbonofboeaaGreatMC10
import Derived.Test.YteaocbonofboeaaGreatMC12
import Derived.Test.YteaocbonofboeaaGreatMC02
import Derived.Test.YteaocbonofboeaaGreatMC03
import Derived.Test.YteaocbonofboeaaGreatMC07
set_option linter.unusedVariables false
set_option linter.unusedSimpArgs false
set_option maxHeartbeats 8000000
set_option maxRecDepth 100000
section
namespace Go.Proofs.YteaocbonofboeaaGreat.CodecP
open Go.RowKit Go.Proofs.YteaocbonofboeaaGreat.C Go.Proofs.YteaocbonofboeaaGreatW.PrintWords Go.Proofs.YteaocbonofboeaaGreatW.PrintLast Go.Proofs.YteaocbonofboeaaGreatW.PrintMore
theorem Qrk:∀(n k:Nat) (x:Int),n≤9→0≤x→x<128^(n+1)→x<18446744073709551616→n+1≤k→∃t,Qbb.f k x=some t∧bytesOf t=vput n x
 | 0,k,x,hn,h0,h1,h2,hk=>by
  obtain⟨k,rfl⟩:∃m,k=m+1:=⟨k-1,by omega⟩;have hx:x<128:=by simpa using h1
  refine⟨strOfNums [x%256],?_,?_⟩
  ·unfold Qbb.f;rw[if_pos hx]
  ·rw[bytesOf_nums (by intro y hy;simp at hy;omega)];simp[vput];omega
 | n+1,k,x,hn,h0,h1,h2,hk=>by
  obtain⟨k,rfl⟩:∃m,k=m+1:=⟨k-1,by omega⟩
  by_cases hx:x<128
  ·refine⟨strOfNums [x%256],?_,?_⟩
   ·unfold Qbb.f;rw[if_pos hx]
   ·rw[bytesOf_nums (by intro y hy;simp at hy;omega)];simp[vput,hx];omega
  ·have hq:x/128<128^(n+1):=by
    rw[Int.pow_succ]at h1;exact Int.ediv_lt_of_lt_mul (by omega) h1
   obtain⟨t,ht,hb⟩:=Qrk n k (x/128) (by omega) (by omega) hq (by omega) (by omega);have e1:IntKind.u64.wrap (Int.tdiv x 128)=x/128:=by rw[Int.tdiv_eq_ediv_of_nonneg h0,IntWalk.u64_in _ (by omega)]
   have e2:IntKind.u64.wrap (128+(Int.tmod x 128))%256=x%128+128:=by rw[Int.tmod_eq_emod_of_nonneg h0,IntWalk.u64_in _ (by omega)];omega
   have hl:=Qku n (x/128);have hts:t.size≤n+1:=by rw[Qne,hb];exact hl
   have hy:(strOfNums [x%128+128]).size=1:=by rw[strOfNums_size];rfl
   refine⟨strOfNums [x%128+128]++t,?_,?_⟩
   ·unfold Qbb.f;rw[if_neg hx,Option.bind_some,e1,e2,ht,Option.bind_some,hy];rw[if_pos (by omega)]
   ·rw[Qqs,bytesOf_nums (by intro y hy';simp at hy';omega),hb];simp[vput,hx]
theorem num2(k:Nat)(x:Int)(h0:0≤x)(h1:x<18446744073709551616)(hk:10≤k):∃t,Qbb.f k x=some t∧bytesOf t=vput 9 x :=
 Qrk 9 k x (by omega) h0 (by omega) h1 hk
theorem Qrl:∀(d k:Nat) (n i:Nat) (x:Int) (out:ByteArray),i+d=n→n≤1000→0≤x→x<18446744073709551616→out.size≤i→d+1≤k →
  ∃t,Qaz.l0 k x out (n:Int) (i:Int)=some t∧bytesOf t=bytesOf out++leb x d
 | 0,k,n,i,x,out,h,hn,h0,h1,ho,hk=>by
  obtain⟨k,rfl⟩:∃m,k=m+1:=⟨k-1,by omega⟩;refine⟨out,?_,by simp[leb]⟩;unfold Qaz.l0;rw[if_neg (by omega)]
 | d+1,k,n,i,x,out,h,hn,h0,h1,ho,hk=>by
  obtain⟨k,rfl⟩:∃m,k=m+1:=⟨k-1,by omega⟩;have e1:(Int.tmod x 256)%256=x%256:=by rw[Int.tmod_eq_emod_of_nonneg h0];omega
  have e2:IntKind.u64.wrap (Int.tdiv x 256)=x/256:=by rw[Int.tdiv_eq_ediv_of_nonneg h0,IntWalk.u64_in _ (by omega)]
  have hy:(strOfNums [x%256]).size=1:=by rw[strOfNums_size];rfl
  obtain⟨t,ht,hb⟩:=Qrl d k n (i+1) (x/256) (out++strOfNums [x%256]) (by omega) hn (by omega) (by omega) (by rw[ByteArray.size_append,hy];omega) (by omega);refine⟨t,?_,?_⟩
  ·unfold Qaz.l0;rw[if_pos (by omega),Option.bind_some,e1,e2,hy,if_pos (by omega),Qrf i (by omega)];exact ht
  ·rw[hb,Qqs,bytesOf_nums (by intro y hy';simp at hy';omega)];simp[leb]
theorem num1(k n:Nat)(x:Int)(hn:n≤1000)(h0:0≤x)(h1:x<18446744073709551616)(hk:n+1≤k):∃t,Qaz.f k x (n:Int)=some t∧bytesOf t=leb x n:=by
 obtain⟨t,ht,hb⟩:=Qrl n k n 0 x (⟨#[]⟩:ByteArray) (by omega) hn h0 h1 (by decide) hk;exact⟨t,ht,by rw[hb];rfl⟩
theorem text2(k:Nat)(s:ByteArray)(hs:s.size≤70368744177664)(hk:10≤k):∃t,Qbc.f k s=some t∧bytesOf t=vput 9 s.size++bytesOf s∧t.size≤s.size+10:=by
 obtain⟨t,ht,hb⟩:=num2 k (s.size:Int) (by omega) (by omega) hk;have hl:=Qku 9 (s.size:Int);have hts:t.size≤10:=by rw[Qne,hb];omega
 refine⟨t++s,?_,by rw[Qqs,hb],by rw[ByteArray.size_append];omega⟩;unfold Qbc.f;rw[if_pos hs,ht,Option.bind_some,if_pos (by omega)]
theorem Qrm(k:Nat)(d:Bool)(s:Int)(key v:ByteArray)(hs0:0≤s)(hs1:s<18446744073709551616)(hk1:key.size≤70368744177664)(hv1:v.size≤70368744177664)(hk:10≤k) :
  ∃t,Qbj.f k d s key v=some t∧bytesOf t=Qlg d s key v∧t.size≤key.size+v.size+31:=by
 obtain⟨t1,h1,b1⟩:=num2 k s hs0 hs1 hk;obtain⟨t2,h2,b2,z2⟩:=text2 k key hk1 hk;obtain⟨t3,h3,b3,z3⟩:=text2 k v hv1 hk;have hl:=Qku 9 s;have hz1:t1.size≤10:=by rw[Qne,b1];omega
 cases d with
 | true =>
  have hc:(⟨#[3]⟩:ByteArray).size=1:=rfl;refine⟨((⟨#[3]⟩:ByteArray)++t1)++t2,?_,?_,?_⟩
  ·unfold Qbj.f;rw[if_pos rfl,h1,Option.bind_some,if_pos (by omega),h2,Option.bind_some,if_pos (by rw[ByteArray.size_append,hc];omega)]
  ·rw[Qqs,Qqs,b1,b2,show bytesOf (⟨#[3]⟩:ByteArray)=[3] from rfl];simp[Qlg]
  ·rw[ByteArray.size_append,ByteArray.size_append,hc];omega
 | false =>
  have hc:(⟨#[2]⟩:ByteArray).size=1:=rfl;refine⟨(((⟨#[2]⟩:ByteArray)++t1)++t2)++t3,?_,?_,?_⟩
  ·unfold Qbj.f;rw[if_neg (by decide),h1,Option.bind_some,if_pos (by omega),h2,Option.bind_some,if_pos (by rw[ByteArray.size_append,hc];omega),h3,Option.bind_some,if_pos (by rw[ByteArray.size_append,ByteArray.size_append,hc];omega)]
  ·rw[Qqs,Qqs,Qqs,b1,b2,b3,show bytesOf (⟨#[2]⟩:ByteArray)=[2] from rfl];simp[Qlg]
  ·rw[ByteArray.size_append,ByteArray.size_append,ByteArray.size_append,hc];omega
theorem Qrn(k:Nat)(s:ByteArray)(hs:s.size≤562949953421312)(hk:2*s.size+200≤k):∃t,Qbl.f k s=some t∧bytesOf t=Qql (bytesOf s):=by
 have hr:=Qqk 0 (bytesOf s);obtain⟨t1,h1,b1⟩:=num1 k 8 (Qlz 0 (bytesOf s)) (by omega) hr.1 hr.2 (by omega);have hz1:t1.size=8:=by rw[Qne,b1,Qjj]
 obtain⟨t2,h2,b2⟩:=Qrj (s++t1) k (by rw[ByteArray.size_append];omega) (by rw[ByteArray.size_append];omega);have hl:=Qqm _ (bytesOf (s++t1)) (Nat.le_refl _);have hz2:t2.size≤2*s.size+17:=by
  rw[Qne t2,b2];rw[Qdb,ByteArray.size_append]at hl;omega
 refine⟨t2++(⟨#[0]⟩:ByteArray),?_,?_⟩
 ·unfold Qbl.f;rw[Qnu 0 s k ⟨by omega,by omega⟩ (by omega) (by omega),Option.bind_some,show(8:Int)=((8:Nat):Int) from rfl,h1,Option.bind_some,if_pos (by omega),h2,Option.bind_some,if_pos (by omega)]
 ·rw[Qqs,b2,Qqs,b1];rfl
theorem Qro(k:Nat)(d:Bool)(s:Int)(key v:ByteArray)(hs0:0≤s)(hs1:s<18446744073709551616)(hk1:key.size≤35184372088832)(hv1:v.size≤35184372088832)(hk:2*(key.size+v.size)+300≤k) :
  ∃t,Qbk.f k d s key v=some t∧bytesOf t=Qql (Qlg d s key v):=by
 obtain⟨t1,h1,b1,z1⟩:=Qrm k d s key v hs0 hs1 (by omega) (by omega) (by omega);obtain⟨t2,h2,b2⟩:=Qrn k t1 (by omega) (by omega);refine⟨t2,?_,by rw[b2,b1]⟩;unfold Qbk.f;rw[h1,Option.bind_some,h2,Option.bind_some]
end Go.Proofs.YteaocbonofboeaaGreat.CodecP
end
section
namespace Go.Proofs.YteaocbonofboeaaGreat.C
open Go.RowKit Go.Proofs.YteaocbonofboeaaGreatW.PrintWords Go.Proofs.YteaocbonofboeaaGreatW.PrintLast Go.Proofs.YteaocbonofboeaaGreatW.PrintMore
attribute [local go_sem] Qhx Qhy Qhz Qia Qib Qic Qid Qie
def Qan.l0:Nat→List Int→List Int→List Int→Option (List Int × Int)
 | 0,_,_,_=>none
 | k+1,x0,x4,x5=>if(x5.length:Int) > 0 then(if 0<(x5.length:Int)then(if(wrap64 (rd x5 0)) > (x5.length:Int)then(some (([]:List Int),2))else(if 1≤(wrap64 (rd x5 0))then(if(wrap64 (rd x5 0))≤(x5.length:Int)then((some ((x5.take ((wrap64 (rd x5 0)):Int).toNat).drop 1:List Int)).bind fun y107=>(if x4.length+y107.length<140737488355328 then((some (x4++y107:List Int)).bind fun y112=>(if 0≤(wrap64 (rd x5 0))then((some (x5.drop ((wrap64 (rd x5 0)):Int).toNat:List Int)).bind fun y115=>(if(wrap64 (rd x5 0))≤254 then(if(y115.length:Int) > 0 then(if y112.length<140737488355328 then(Qan.l0 k x0 (y112++[0]) y115)else(none))else(Qan.l0 k x0 y112 y115))else(Qan.l0 k x0 y112 y115)))else(none)))else(none)))else(none))else(none)))else(none))else((Qam.f x4).bind fun t123=>((Qae.f t123 x0).bind fun t126=>(if t126=true then(some (x4,0))else(some (([]:List Int),4)))))
def Qan.f(k:Nat)(l0:List Int):Option (List Int × Int):=(Qaf.f l0 0).bind fun t105=>(if t105≥0 then(some (([]:List Int),4))else(if(l0.length:Int)=0 then(some (([]:List Int),2))else(Qan.l0 k l0 ([]:List Int) l0)))
theorem Qan.calls (k:Nat) (P0_:Nat→Prop) (A0:Option Addr) (c0:Nat) (l0:List Int) (r1:List Int) (r2:Int) (w:World) (hs0:Kd.V (Kd.int .u8) 5 w w.heap.size (fun k_=>P0_ k_) (.slice A0 l0.length c0) l0) (h:Qan.f k l0=some (r1,r2)) :
  Calls Tryz.prog 168 #[.slice A0 l0.length c0] w fun e w'=>∃aJ:Value,e=.returned (.tuple #[aJ,.int .i64 r2])∧Kd.R (Kd.int .u8) 5 w' w.heap.size (fun k_=>(w.heap.size≤k_)) aJ r1∧Below w.heap.size w w':=by
 have L:=QA (show Kd.V (Kd.int .u8) 5 w w.heap.size (fun k_=>(P0_ k_∨w.heap.size≤k_)) (.slice A0 l0.length c0) l0 from Kd.V_mono hs0 (fun k_ hk=>.inl hk));have HB:=QA (Below.refl w.heap.size w);have H:((Qaf.f l0 0).bind fun y=>(if y≥0 then(some (([]:List Int),4))else(if(l0.length:Int)=0 then(some (([]:List Int),2))else(Qan.l0 k l0 ([]:List Int) l0))))=some (r1,r2):=h;clear h;replace H:=Option.bind_eq_some_iff.mp H;obtain⟨y,aK,H⟩:=H;have A2:=QA aK;clear aK
 by_cases c3:y≥0
 ·rw[if_pos c3]at H;have ak:decide (0≤y)=true:=decide_eq_true c3;clear c3;simp only[Option.some.injEq,Prod.mk.injEq]at H;obtain⟨rfl,rfl⟩:=H
  go_enter Tryz.func168,Tryz.ntmps168
  go_wp2_with (first |((with_reducible refine Qif (f:=68) rfl ?_);refine Qgi (some 8) rfl rfl Tryz.func68 qq_2 rfl #[.slice A0 l0.length c0,.int .u8 0] rfl qq_0 ?_;(with_reducible refine(Qaf.calls _ _ l0 0 y _ ?side1 ?side2 A2.out).mono ?_);(case side1=>repeat(first|exact(Kd.V_reads' L.out).2.2 |(with_reducible refine Kd.C_alloc ?_ _) |(with_reducible refine Kd.C_drewN ?_ _) |(with_reducible refine Kd.C_drew ?_)));(case side2=>exact(Kd.V_reads' L.out).2.1);rintro e w' ⟨rfl,⟨nd,rfl⟩⟩;refine⟨_,rfl,?_⟩))
  go_ret2
  exact⟨_,by first|rfl |(simp[Qik,Qil]<;>rfl) |(simp[*,Qik,Qil]<;>rfl),by first|exact Kd.R_nil _ _ _ _ _|exact Kd.N_nil _ _ _ _ _|exact Kd.V_nil _ _ _ _ _|exact Kd.Q_nil _ _ _ _ _|exact Kd.S_nil _ _ _ _ _,qq_b⟩
 ·rw [if_neg c3]at H;have ak:decide (0≤y)=false:=decide_eq_false c3;clear c3
  by_cases c4:(l0.length:Int)=0
  ·rw[if_pos c4]at H;have al:((l0.length:Int) == 0)=true:=beq_iff_eq.mpr c4;have am:((l0.length:Int) != 0)=false:=bne_eq_false_iff_eq.mpr c4;clear c4;simp only[Option.some.injEq,Prod.mk.injEq]at H;obtain⟨rfl,rfl⟩:=H
   go_enter Tryz.func168,Tryz.ntmps168
   go_wp2_with (first |((with_reducible refine Qif (f:=68) rfl ?_);refine Qgi (some 8) rfl rfl Tryz.func68 qq_2 rfl #[.slice A0 l0.length c0,.int .u8 0] rfl qq_0 ?_;(with_reducible refine(Qaf.calls _ _ l0 0 y _ ?side1 ?side2 A2.out).mono ?_);(case side1=>repeat(first|exact(Kd.V_reads' L.out).2.2 |(with_reducible refine Kd.C_alloc ?_ _) |(with_reducible refine Kd.C_drewN ?_ _) |(with_reducible refine Kd.C_drew ?_)));(case side2=>exact(Kd.V_reads' L.out).2.1);rintro e w' ⟨rfl,⟨nd,rfl⟩⟩;refine⟨_,rfl,?_⟩))
   go_ret2
   exact⟨_,by first|rfl |(simp[Qik,Qil]<;>rfl) |(simp[*,Qik,Qil]<;>rfl),by first|exact Kd.R_nil _ _ _ _ _|exact Kd.N_nil _ _ _ _ _|exact Kd.V_nil _ _ _ _ _|exact Kd.Q_nil _ _ _ _ _|exact Kd.S_nil _ _ _ _ _,qq_b⟩
  ·rw [if_neg c4]at H;have al:((l0.length:Int) == 0)=false:=beq_eq_false_iff_ne.mpr c4;have am:((l0.length:Int) != 0)=true:=bne_iff_ne.mpr c4;have be:¬(l0=[]):=fun h_=>c4 (by rw[h_];rfl)
   have H':=QA H;clear H
   go_enter Tryz.func168,Tryz.ntmps168
   go_wp2_with (first |((with_reducible refine Qif (f:=68) rfl ?_);refine Qgi (some 8) rfl rfl Tryz.func68 qq_2 rfl #[.slice A0 l0.length c0,.int .u8 0] rfl qq_0 ?_;(with_reducible refine(Qaf.calls _ _ l0 0 y _ ?side1 ?side2 A2.out).mono ?_);(case side1=>repeat(first|exact(Kd.V_reads' L.out).2.2 |(with_reducible refine Kd.C_alloc ?_ _) |(with_reducible refine Kd.C_drewN ?_ _) |(with_reducible refine Kd.C_drew ?_)));(case side2=>exact(Kd.V_reads' L.out).2.1);rintro e w' ⟨rfl,⟨nd,rfl⟩⟩;refine⟨_,rfl,?_⟩))
   go_loopg [4,5] k (fun kq v4 v5 w'=>∃(r:List Int) (a:List Int),Aside0 (Qan.l0 kq l0 r a=some (r1,r2))∧Aside0 (kq≤k)∧Aside0 (Kd.V (Kd.int .u8) 5 w' w.heap.size (fun k_=>(P0_ k_∨w.heap.size≤k_)∧some k_≠(v4:Value).ownBlock) (.slice A0 l0.length c0) l0)∧Aside0 (Kd.R (Kd.int .u8) 5 w' w.heap.size (fun k_=>(w.heap.size≤k_)) v4 r)∧Aside0 (Kd.V (Kd.int .u8) 5 w' w.heap.size (fun k_=>(P0_ k_∨w.heap.size≤k_)∧some k_≠(v4:Value).ownBlock) v5 a)∧Aside0 (Below w.heap.size w w'))
   case atStart=>exact⟨(([]:List Int)),(l0),H',⟨Nat.le_refl _⟩,⟨by(with_reducible repeat(first|apply Kd.V_alloc|apply Kd.V_drewN|apply Kd.V_drew));exact Kd.V_mono L.out (fun _ hk=>⟨hk,(by simp[Value.ownBlock])⟩)⟩,⟨by first|exact Kd.R_nil _ _ _ _ _|exact Kd.N_nil _ _ _ _ _|exact Kd.V_nil _ _ _ _ _|exact Kd.Q_nil _ _ _ _ _|exact Kd.S_nil _ _ _ _ _⟩,⟨by(with_reducible repeat(first|apply Kd.V_alloc|apply Kd.V_drewN|apply Kd.V_drew));exact Kd.V_mono L.out (fun _ hk=>⟨hk,(by simp[Value.ownBlock])⟩)⟩,⟨qq_b⟩⟩
   case round =>
    clear H'
    try clear c3
    try clear ak
    try clear c4
    try clear al
    try clear am
    try clear be
    obtain⟨r,a,HA,HK1,HO_0,HO_4,HO_5,HB⟩:=hrel
    cases gk with
    | zero=>exact absurd HA.out (by simp[Qan.l0])
    | succ k1 =>
     have H:=HA.out;clear HA;simp only[Qan.l0]at H
     by_cases c5:(a.length:Int) > 0
     ·rw [if_pos c5]at H;have bf:decide (0<(a.length:Int))=true:=decide_eq_true c5;have bg:decide (0<a.length)=true:=decide_eq_true (by omega);clear c5
      by_cases c6:0<(a.length:Int)
      ·rw [if_pos c6]at H;have bu:=decide_eq_true c6;have bv:decide (0<a.length)=true:=decide_eq_true (by omega);clear c6
       by_cases c7:(wrap64 (rd a 0)) > (a.length:Int)
       ·rw[if_pos c7]at H;have an:decide ((a.length:Int)<(wrap64 (rd a 0)))=true:=decide_eq_true c7;clear c7;simp only[Option.some.injEq,Prod.mk.injEq]at H;obtain⟨rfl,rfl⟩:=H;obtain⟨Ao8,co8,eo8⟩:=Kd.V_slice HO_5.out;subst eo8;have p:0≤(0:Int):=(by omega);have q:0<(a.length:Int):=of_decide_eq_true qq_6;obtain⟨j,D,o⟩:=Kd.at_int (Kd.V_reads' HO_5.out).2.2 0 p q
        cases D
        have qi106:(0<a.length)=True:=eq_true (by omega)
        (try rw[show((0:Int)).toNat=0 from rfl]at o)
        (try rw[Addr.add_zero']at o)
        replace p:=eq_true p;replace q:=eq_true q;go_wp2
        go_ret2
        exact⟨_,by first|rfl |(simp[Qik,Qil]<;>rfl) |(simp[*,Qik,Qil]<;>rfl),by first|exact Kd.R_nil _ _ _ _ _|exact Kd.N_nil _ _ _ _ _|exact Kd.V_nil _ _ _ _ _|exact Kd.Q_nil _ _ _ _ _|exact Kd.S_nil _ _ _ _ _,qq_b⟩
       ·rw [if_neg c7]at H;have an:decide ((a.length:Int)<(wrap64 (rd a 0)))=false:=decide_eq_false c7;clear c7
        by_cases c9:1≤(wrap64 (rd a 0))
        ·rw [if_pos c9]at H;have bh:=eq_true c9;have bi:=decide_eq_true c9;clear c9
         by_cases c10:(wrap64 (rd a 0))≤(a.length:Int)
         ·rw [if_pos c10]at H;have az:=eq_true c10;have aA:=decide_eq_true c10;clear c10;obtain⟨l,E⟩:∃y_:List Int,y_=((a.take ((wrap64 (rd a 0)):Int).toNat).drop 1):=⟨_,rfl⟩;replace H:(if r.length+l.length<140737488355328 then((some (r++l:List Int)).bind fun n=>(if 0≤(wrap64 (rd a 0))then((some (a.drop ((wrap64 (rd a 0)):Int).toNat:List Int)).bind fun g=>(if(wrap64 (rd a 0))≤254 then(if(g.length:Int) > 0 then(if n.length<140737488355328 then(Qan.l0 k1 l0 (n++[0]) g)else(none))else(Qan.l0 k1 l0 n g))else(Qan.l0 k1 l0 n g)))else(none)))else(none))=some (r1,r2):=by first |(rw[E];with_reducible exact H) |(have t:=(Option.bind_some _ _).symm.trans H;rw[E];with_reducible exact t) |(have t:=(Option.bind_some _ _).symm.trans H;with_reducible exact t)|with_reducible exact H |(rw[E];exact H)|exact H
          have u:=QA E;clear E
          by_cases af:r.length+l.length<140737488355328
          ·rw [if_pos af]at H;have ab:=QA af;clear af;obtain⟨n,G⟩:∃y_:List Int,y_=(r++l):=⟨_,rfl⟩;replace H:(if 0≤(wrap64 (rd a 0))then((some (a.drop ((wrap64 (rd a 0)):Int).toNat:List Int)).bind fun g=>(if(wrap64 (rd a 0))≤254 then(if(g.length:Int) > 0 then(if n.length<140737488355328 then(Qan.l0 k1 l0 (n++[0]) g)else(none))else(Qan.l0 k1 l0 n g))else(Qan.l0 k1 l0 n g)))else(none))=some (r1,r2):=by first |(rw[G];with_reducible exact H) |(have t:=(Option.bind_some _ _).symm.trans H;rw[G];with_reducible exact t) |(have t:=(Option.bind_some _ _).symm.trans H;with_reducible exact t)|with_reducible exact H |(rw[G];exact H)|exact H
           have ac:=QA G;clear G;obtain⟨d,s⟩:∃j_:Int,(wrap64 (rd a 0))=j_:=⟨_,rfl⟩;replace H:(if 0≤(d)then((some (a.drop ((d):Int).toNat:List Int)).bind fun g=>(if(d)≤254 then(if(g.length:Int) > 0 then(if n.length<140737488355328 then(Qan.l0 k1 l0 (n++[0]) g)else(none))else(Qan.l0 k1 l0 n g))else(Qan.l0 k1 l0 n g)))else(none))=some (r1,r2):=by first |(rw[s]at H;exact H) |(simp only[s]at H ⊢;exact H)
           (try rw[s]at an)
           (try rw[s]at bh)
           (try rw[s]at bi)
           (try rw[s]at az)
           (try rw[s]at aA)
           (try rw[s]at u)
           (try rw[s]at u)
           have bp:(IntKind.i64.wrap (rd a 0))=d:=(Qgk _).trans s
           by_cases ad:0≤(d)
           ·rw [if_pos ad]at H;have bq:=eq_true ad;have br:=decide_eq_true ad;clear ad;have bs:=eq_true (of_decide_eq_true qq_6:(d)≤(a.length:Int));obtain⟨g,I⟩:∃y_:List Int,y_=(a.drop ((d):Int).toNat):=⟨_,rfl⟩;replace H:(if(d)≤254 then(if(g.length:Int) > 0 then(if n.length<140737488355328 then(Qan.l0 k1 l0 (n++[0]) g)else(none))else(Qan.l0 k1 l0 n g))else(Qan.l0 k1 l0 n g))=some (r1,r2):=by first |(rw[I];with_reducible exact H) |(have t:=(Option.bind_some _ _).symm.trans H;rw[I];with_reducible exact t) |(have t:=(Option.bind_some _ _).symm.trans H;with_reducible exact t)|with_reducible exact H |(rw[I];exact H)|exact H
            have A:=QA I;clear I
            by_cases Z:(d)≤254
            ·rw[if_pos Z]at H;have aC:=decide_eq_true Z;clear Z
             by_cases aa:(g.length:Int) > 0
             ·rw[if_pos aa]at H;have aD:decide (0<(g.length:Int))=true:=decide_eq_true aa;have aE:decide (0<g.length)=true:=decide_eq_true (by omega);clear aa
              by_cases ag:n.length<140737488355328
              ·rw[if_pos ag]at H;have aG:=QA ag;clear ag;obtain⟨ao,J⟩:∃y_:List Int,y_=(n++[0]):=⟨_,rfl⟩;replace H:(Qan.l0 k1 l0 ao g)=some (r1,r2):=by first |(rw[J];with_reducible exact H) |(have t:=(Option.bind_some _ _).symm.trans H;rw[J];with_reducible exact t) |(have t:=(Option.bind_some _ _).symm.trans H;with_reducible exact t)|with_reducible exact H |(rw[J];exact H)|exact H
               have aH:=QA J;clear J;have H':=QA H;clear H;obtain⟨Ao18,co18,eo18⟩:=Kd.V_slice HO_5.out;subst eo18;have p:0≤(0:Int):=(by omega);have q:0<(a.length:Int):=of_decide_eq_true qq_6;obtain⟨j,D,o⟩:=Kd.at_int (Kd.V_reads' HO_5.out).2.2 0 p q
               cases D
               have qi106:(0<a.length)=True:=eq_true (by omega)
               (try rw[show((0:Int)).toNat=0 from rfl]at o)
               (try rw[Addr.add_zero']at o)
               replace p:=eq_true p;replace q:=eq_true q;have ap:((d):Int)≤((a.length:Int):Int):=of_decide_eq_true qq_6;obtain⟨bw,hi019,_,hsz19,_⟩:=info_parts Qim;have hroom19:a.length≤co18:=(Kd.V_reads' HO_5.out).2.1;have hC19:Kd.F (Kd.int .u8) _ _ (some j) a.length a:=(Kd.V_at (base:=w.heap.size) HO_5.out).2.2;have ql19:(1:Int)≤((d):Int):=of_decide_eq_true qq_6;have hcut19:=Qfa (P:=Tryz.prog) 40 5 .i64 .i64 Tryz.underlying40 hi019 1 hsz19 (some j) a.length co18 1 (d) (by omega) ql19 ap hroom19;have hr19:=Kd.F_mid (lo:=(1:Int).toNat) (hi:=((d):Int).toNat) (c:=co18) hC19 (by omega) (by omega) hroom19;obtain⟨aM,hA19⟩:∃A1,A1=(if co18=(1:Int).toNat then(some j)else((some j):Option Addr).map (·.add ((1:Int).toNat*1))):=⟨_,rfl⟩;obtain⟨aN,hc19⟩:∃c1,c1=co18-(1:Int).toNat:=⟨_,rfl⟩;have O:l.length=((d):Int).toNat-(1:Int).toNat:=(by rw[u.out,List.length_drop,List.length_take]<;>omega);rw[show((a).take ((d):Int).toNat).drop (1:Int).toNat=l from u.out.symm]at hr19;replace hr19:Kd.F (Kd.int .u8) _ _ aM l.length l:=(by rw[hA19];exact hr19);rw[← O,← hA19,← hc19]at hcut19;have HO111:=QA (show Kd.V (Kd.int .u8) 5 _ w.heap.size _ (.slice aM l.length aN) l from Kd.V_mk (by rw[O,hc19];exact Nat.sub_le_sub_right (Nat.le_trans (by omega) hroom19) _) hr19);have ah:=QA (show l.length≤aN from by rw[O,hc19];exact Nat.sub_le_sub_right (Nat.le_trans (by omega) hroom19) _);clear hr19 hC19 hroom19 hi019 hsz19 hc19;have KY19:=QA O;have KA19:=QA hA19;clear O hA19;replace ap:=eq_true ap
               go_wp2_with (first |((with_reducible refine Qig (b:=.append) (xs:=#[.tmp 25,.tmp 28]) rfl ?_);(try(refine Qhw (by rfl) ?_;dsimp only));at_builtin;refine Kd.R_append_rows (Kd.int .u8) (w0:=w) w.heap.size rfl (.tmp 25) (.tmp 28) 40 5 (.int .u8 0) 1 rfl Tryz.underlying40 Qim rfl (by decide) (by omega) u4 r l _ _ _ (fun k_=>(w.heap.size≤k_)) (fun _=>False) rfl rfl ?aO ?aR (fun _ _ h=>h) (fun _ h=>h.elim) ?aF ?aB ?aS ?aL ?_;(case aR=>repeat(first|exact(Kd.V_reads' HO111.out).2.2 |(with_reducible refine Kd.C_alloc ?_ _) |(with_reducible refine Kd.C_drewN ?_ _) |(with_reducible refine Kd.C_drew ?_)));(case aB=>exact qq_b);(case aF=>exact(fun k_ hk=>(Nat.le_trans (Qfc qq_b) hk)));(case aO=>exact qq_11);(case aS=>exact(Qfc qq_b));(case aL=>have:=ab.out;omega);intro ae bE ho hb hg hat;rw[← ac.out]at ho;have n_:=qn5 (Kd.V_afterv (ok:=(fun k_=>(P0_ k_∨w.heap.size≤k_))) qq_14 hg hat) (Kd.V_afterv (ok:=(fun k_=>(P0_ k_∨w.heap.size≤k_))) qq_13 hg hat) (Kd.V_afterv (ok:=(fun k_=>(P0_ k_∨w.heap.size≤k_))) qq_17 hg hat) (hb) (ho);clear HO_0 HO_5 HO111 HB HO_4;obtain⟨HO_0,HO_5,HO111,HB,B⟩:=n_;clear ho hb hg hat;have aq:((d):Int)≤((a.length:Int):Int):=of_decide_eq_true qq_6;obtain⟨bx,hi021,_,hsz21,_⟩:=info_parts Qim;have hroom21:a.length≤co18:=(Kd.V_reads' HO_5.out).2.1;have hC21:Kd.F (Kd.int .u8) _ _ (some j) a.length a:=(Kd.V_at (base:=w.heap.size) HO_5.out).2.2;have bj:(0:Int)≤((d):Int):=of_decide_eq_true qq_6;have hcut21:=Qep (P:=Tryz.prog) 40 5 .i64 Tryz.underlying40 hi021 1 hsz21 (some j) a.length co18 (d) bj aq;have hr21:=Kd.F_cut (m:=((d):Int).toNat) (c:=co18) hC21 (by omega) hroom21;obtain⟨aQ,hA21⟩:∃A1,A1=(if co18=((d):Int).toNat then(some j)else((some j):Option Addr).map (·.add (((d):Int).toNat*1))):=⟨_,rfl⟩;obtain⟨aT,hc21⟩:∃c1,c1=co18-((d):Int).toNat:=⟨_,rfl⟩;have T:g.length=a.length-((d):Int).toNat:=(by rw[A.out,List.length_drop]<;>omega);rw[show(a).drop ((d):Int).toNat=g from A.out.symm]at hr21;replace hr21:Kd.F (Kd.int .u8) _ _ aQ g.length g:=(by rw[hA21];exact hr21);rw[← T,← hA21,← hc21]at hcut21;have v:=QA (show Kd.V (Kd.int .u8) 5 _ w.heap.size _ (.slice aQ g.length aT) g from Kd.V_mk (by rw[T,hc21];exact Nat.sub_le_sub_right hroom21 _) hr21);have ai:=QA (show g.length≤aT from by rw[T,hc21];exact Nat.sub_le_sub_right hroom21 _);clear hr21 hC21 hroom21 hi021 hsz21 hc21;have KY21:=QA T;have KA21:=QA hA21;clear T hA21;replace aq:=eq_true aq) |((with_reducible refine Qig (b:=.append) (xs:=#[.tmp 40,.tmp 41]) rfl ?_);(try(refine Qhw (by rfl) ?_;dsimp only));at_builtin;refine Kd.R_append (Kd.int .u8) (w0:=w) w.heap.size rfl (.tmp 40) (.tmp 41) 40 5 (.int .u8 0) 1 rfl Tryz.underlying40 Qim rfl (by decide) (by omega) ae n 0 [.int .u8 0] (fun k_=>(w.heap.size≤k_)) (fun _=>False) rfl rfl ?aP (fun _ hk=>hk.elim) ?aF ?aO ?aB ?aS ?aL ?_;(case aP=>exact rfl);(case aB=>exact qq_b);(case aF=>exact(fun k_ hk=>(Nat.le_trans (Qfc qq_b) hk)));(case aO=>exact(by(with_reducible repeat(first|apply Kd.R_alloc|apply Kd.R_drewN|apply Kd.R_drew));exact B.out));(case aS=>exact(Qfc qq_b));(case aL=>have:=aG.out;omega);intro bz bF ho hb hg hat;rw[← aH.out]at ho;have n_:=qn6 (Kd.V_afterv (ok:=(fun k_=>(P0_ k_∨w.heap.size≤k_))) qq_14 hg hat) (Kd.V_afterv (ok:=(fun k_=>(P0_ k_∨w.heap.size≤k_))) qq_13 hg hat) (Kd.V_afterv (ok:=(fun k_=>(P0_ k_∨w.heap.size≤k_))) qq_17 hg hat) (Kd.V_afterv (ok:=(fun k_=>(P0_ k_∨w.heap.size≤k_))) (by(with_reducible repeat(first|apply Kd.V_alloc|apply Kd.V_drewN|apply Kd.V_drew));exact v.out) hg hat) (hb) (ho);clear HO_0 HO_5 HO111 v HB B;obtain⟨HO_0,HO_5,HO111,v,HB,aI⟩:=n_;clear ho hb hg hat))
               go_roundg k1
               case measure=>have:=HK1.out;omega
               case rel=>exact⟨(ao),(g),H',⟨by have:=HK1.out;omega⟩,⟨by(with_reducible repeat(first|apply Kd.V_alloc|apply Kd.V_drewN|apply Kd.V_drew));exact HO_0.out⟩,⟨by(with_reducible repeat(first|apply Kd.R_alloc|apply Kd.R_drewN|apply Kd.R_drew));exact aI.out⟩,⟨by(with_reducible repeat(first|apply Kd.V_alloc|apply Kd.V_drewN|apply Kd.V_drew));exact v.out⟩,⟨qq_b⟩⟩
              ·rw[if_neg ag]at H;exact absurd H (by simp)
             ·rw[if_neg aa]at H;have aD:decide (0<(g.length:Int))=false:=decide_eq_false aa;have aE:decide (0<g.length)=false:=decide_eq_false (by omega);clear aa;have H':=QA H;clear H;obtain⟨Ao23,co23,eo23⟩:=Kd.V_slice HO_5.out;subst eo23;have p:0≤(0:Int):=(by omega);have q:0<(a.length:Int):=of_decide_eq_true qq_6;obtain⟨j,D,o⟩:=Kd.at_int (Kd.V_reads' HO_5.out).2.2 0 p q
              cases D
              have qi106:(0<a.length)=True:=eq_true (by omega)
              (try rw[show((0:Int)).toNat=0 from rfl]at o)
              (try rw[Addr.add_zero']at o)
              replace p:=eq_true p;replace q:=eq_true q;have ar:((d):Int)≤((a.length:Int):Int):=of_decide_eq_true qq_6;obtain⟨bA,hi024,_,hsz24,_⟩:=info_parts Qim;have hroom24:a.length≤co23:=(Kd.V_reads' HO_5.out).2.1;have hC24:Kd.F (Kd.int .u8) _ _ (some j) a.length a:=(Kd.V_at (base:=w.heap.size) HO_5.out).2.2;have ql24:(1:Int)≤((d):Int):=of_decide_eq_true qq_6;have hcut24:=Qfa (P:=Tryz.prog) 40 5 .i64 .i64 Tryz.underlying40 hi024 1 hsz24 (some j) a.length co23 1 (d) (by omega) ql24 ar hroom24;have hr24:=Kd.F_mid (lo:=(1:Int).toNat) (hi:=((d):Int).toNat) (c:=co23) hC24 (by omega) (by omega) hroom24;obtain⟨aU,hA24⟩:∃A1,A1=(if co23=(1:Int).toNat then(some j)else((some j):Option Addr).map (·.add ((1:Int).toNat*1))):=⟨_,rfl⟩;obtain⟨aV,hc24⟩:∃c1,c1=co23-(1:Int).toNat:=⟨_,rfl⟩;have U:l.length=((d):Int).toNat-(1:Int).toNat:=(by rw[u.out,List.length_drop,List.length_take]<;>omega);rw[show((a).take ((d):Int).toNat).drop (1:Int).toNat=l from u.out.symm]at hr24;replace hr24:Kd.F (Kd.int .u8) _ _ aU l.length l:=(by rw[hA24];exact hr24);rw[← U,← hA24,← hc24]at hcut24;have HO111:=QA (show Kd.V (Kd.int .u8) 5 _ w.heap.size _ (.slice aU l.length aV) l from Kd.V_mk (by rw[U,hc24];exact Nat.sub_le_sub_right (Nat.le_trans (by omega) hroom24) _) hr24);have ah:=QA (show l.length≤aV from by rw[U,hc24];exact Nat.sub_le_sub_right (Nat.le_trans (by omega) hroom24) _);clear hr24 hC24 hroom24 hi024 hsz24 hc24;have KY24:=QA U;have KA24:=QA hA24;clear U hA24;replace ar:=eq_true ar
              go_wp2_with (first |((with_reducible refine Qig (b:=.append) (xs:=#[.tmp 25,.tmp 28]) rfl ?_);(try(refine Qhw (by rfl) ?_;dsimp only));at_builtin;refine Kd.R_append_rows (Kd.int .u8) (w0:=w) w.heap.size rfl (.tmp 25) (.tmp 28) 40 5 (.int .u8 0) 1 rfl Tryz.underlying40 Qim rfl (by decide) (by omega) u4 r l _ _ _ (fun k_=>(w.heap.size≤k_)) (fun _=>False) rfl rfl ?aO ?aR (fun _ _ h=>h) (fun _ h=>h.elim) ?aF ?aB ?aS ?aL ?_;(case aR=>repeat(first|exact(Kd.V_reads' HO111.out).2.2 |(with_reducible refine Kd.C_alloc ?_ _) |(with_reducible refine Kd.C_drewN ?_ _) |(with_reducible refine Kd.C_drew ?_)));(case aB=>exact qq_b);(case aF=>exact(fun k_ hk=>(Nat.le_trans (Qfc qq_b) hk)));(case aO=>exact qq_11);(case aS=>exact(Qfc qq_b));(case aL=>have:=ab.out;omega);intro ae bG ho hb hg hat;rw[← ac.out]at ho;have n_:=qn5 (Kd.V_afterv (ok:=(fun k_=>(P0_ k_∨w.heap.size≤k_))) qq_14 hg hat) (Kd.V_afterv (ok:=(fun k_=>(P0_ k_∨w.heap.size≤k_))) qq_13 hg hat) (Kd.V_afterv (ok:=(fun k_=>(P0_ k_∨w.heap.size≤k_))) qq_17 hg hat) (hb) (ho);clear HO_0 HO_5 HO111 HB HO_4;obtain⟨HO_0,HO_5,HO111,HB,B⟩:=n_;clear ho hb hg hat;have au:((d):Int)≤((a.length:Int):Int):=of_decide_eq_true qq_6;obtain⟨bB,hi026,_,hsz26,_⟩:=info_parts Qim;have hroom26:a.length≤co23:=(Kd.V_reads' HO_5.out).2.1;have hC26:Kd.F (Kd.int .u8) _ _ (some j) a.length a:=(Kd.V_at (base:=w.heap.size) HO_5.out).2.2;have bk:(0:Int)≤((d):Int):=of_decide_eq_true qq_6;have hcut26:=Qep (P:=Tryz.prog) 40 5 .i64 Tryz.underlying40 hi026 1 hsz26 (some j) a.length co23 (d) bk au;have hr26:=Kd.F_cut (m:=((d):Int).toNat) (c:=co23) hC26 (by omega) hroom26;obtain⟨aW,hA26⟩:∃A1,A1=(if co23=((d):Int).toNat then(some j)else((some j):Option Addr).map (·.add (((d):Int).toNat*1))):=⟨_,rfl⟩;obtain⟨aX,hc26⟩:∃c1,c1=co23-((d):Int).toNat:=⟨_,rfl⟩;have W:g.length=a.length-((d):Int).toNat:=(by rw[A.out,List.length_drop]<;>omega);rw[show(a).drop ((d):Int).toNat=g from A.out.symm]at hr26;replace hr26:Kd.F (Kd.int .u8) _ _ aW g.length g:=(by rw[hA26];exact hr26);rw[← W,← hA26,← hc26]at hcut26;have v:=QA (show Kd.V (Kd.int .u8) 5 _ w.heap.size _ (.slice aW g.length aX) g from Kd.V_mk (by rw[W,hc26];exact Nat.sub_le_sub_right hroom26 _) hr26);have ai:=QA (show g.length≤aX from by rw[W,hc26];exact Nat.sub_le_sub_right hroom26 _);clear hr26 hC26 hroom26 hi026 hsz26 hc26;have KY26:=QA W;have KA26:=QA hA26;clear W hA26;replace au:=eq_true au))
              go_roundg k1
              case measure=>have:=HK1.out;omega
              case rel=>exact⟨(n),(g),H',⟨by have:=HK1.out;omega⟩,⟨by(with_reducible repeat(first|apply Kd.V_alloc|apply Kd.V_drewN|apply Kd.V_drew));exact HO_0.out⟩,⟨by(with_reducible repeat(first|apply Kd.R_alloc|apply Kd.R_drewN|apply Kd.R_drew));exact B.out⟩,⟨by(with_reducible repeat(first|apply Kd.V_alloc|apply Kd.V_drewN|apply Kd.V_drew));exact v.out⟩,⟨qq_b⟩⟩
            ·rw[if_neg Z]at H;have aC:=decide_eq_false Z;clear Z;have H':=QA H;clear H;obtain⟨Ao27,co27,eo27⟩:=Kd.V_slice HO_5.out;subst eo27;have p:0≤(0:Int):=(by omega);have q:0<(a.length:Int):=of_decide_eq_true qq_6;obtain⟨j,D,o⟩:=Kd.at_int (Kd.V_reads' HO_5.out).2.2 0 p q
             cases D
             have qi106:(0<a.length)=True:=eq_true (by omega)
             (try rw[show((0:Int)).toNat=0 from rfl]at o)
             (try rw[Addr.add_zero']at o)
             replace p:=eq_true p;replace q:=eq_true q;have av:((d):Int)≤((a.length:Int):Int):=of_decide_eq_true qq_6;obtain⟨bC,hi028,_,hsz28,_⟩:=info_parts Qim;have hroom28:a.length≤co27:=(Kd.V_reads' HO_5.out).2.1;have hC28:Kd.F (Kd.int .u8) _ _ (some j) a.length a:=(Kd.V_at (base:=w.heap.size) HO_5.out).2.2;have ql28:(1:Int)≤((d):Int):=of_decide_eq_true qq_6;have hcut28:=Qfa (P:=Tryz.prog) 40 5 .i64 .i64 Tryz.underlying40 hi028 1 hsz28 (some j) a.length co27 1 (d) (by omega) ql28 av hroom28;have hr28:=Kd.F_mid (lo:=(1:Int).toNat) (hi:=((d):Int).toNat) (c:=co27) hC28 (by omega) (by omega) hroom28;obtain⟨aY,hA28⟩:∃A1,A1=(if co27=(1:Int).toNat then(some j)else((some j):Option Addr).map (·.add ((1:Int).toNat*1))):=⟨_,rfl⟩;obtain⟨aZ,hc28⟩:∃c1,c1=co27-(1:Int).toNat:=⟨_,rfl⟩;have X:l.length=((d):Int).toNat-(1:Int).toNat:=(by rw[u.out,List.length_drop,List.length_take]<;>omega);rw[show((a).take ((d):Int).toNat).drop (1:Int).toNat=l from u.out.symm]at hr28;replace hr28:Kd.F (Kd.int .u8) _ _ aY l.length l:=(by rw[hA28];exact hr28);rw[← X,← hA28,← hc28]at hcut28;have HO111:=QA (show Kd.V (Kd.int .u8) 5 _ w.heap.size _ (.slice aY l.length aZ) l from Kd.V_mk (by rw[X,hc28];exact Nat.sub_le_sub_right (Nat.le_trans (by omega) hroom28) _) hr28);have ah:=QA (show l.length≤aZ from by rw[X,hc28];exact Nat.sub_le_sub_right (Nat.le_trans (by omega) hroom28) _);clear hr28 hC28 hroom28 hi028 hsz28 hc28;have KY28:=QA X;have KA28:=QA hA28;clear X hA28;replace av:=eq_true av
             go_wp2_with (first |((with_reducible refine Qig (b:=.append) (xs:=#[.tmp 25,.tmp 28]) rfl ?_);(try(refine Qhw (by rfl) ?_;dsimp only));at_builtin;refine Kd.R_append_rows (Kd.int .u8) (w0:=w) w.heap.size rfl (.tmp 25) (.tmp 28) 40 5 (.int .u8 0) 1 rfl Tryz.underlying40 Qim rfl (by decide) (by omega) u4 r l _ _ _ (fun k_=>(w.heap.size≤k_)) (fun _=>False) rfl rfl ?aO ?aR (fun _ _ h=>h) (fun _ h=>h.elim) ?aF ?aB ?aS ?aL ?_;(case aR=>repeat(first|exact(Kd.V_reads' HO111.out).2.2 |(with_reducible refine Kd.C_alloc ?_ _) |(with_reducible refine Kd.C_drewN ?_ _) |(with_reducible refine Kd.C_drew ?_)));(case aB=>exact qq_b);(case aF=>exact(fun k_ hk=>(Nat.le_trans (Qfc qq_b) hk)));(case aO=>exact qq_11);(case aS=>exact(Qfc qq_b));(case aL=>have:=ab.out;omega);intro ae bH ho hb hg hat;rw[← ac.out]at ho;have n_:=qn5 (Kd.V_afterv (ok:=(fun k_=>(P0_ k_∨w.heap.size≤k_))) qq_14 hg hat) (Kd.V_afterv (ok:=(fun k_=>(P0_ k_∨w.heap.size≤k_))) qq_13 hg hat) (Kd.V_afterv (ok:=(fun k_=>(P0_ k_∨w.heap.size≤k_))) qq_17 hg hat) (hb) (ho);clear HO_0 HO_5 HO111 HB HO_4;obtain⟨HO_0,HO_5,HO111,HB,B⟩:=n_;clear ho hb hg hat;have aw:((d):Int)≤((a.length:Int):Int):=of_decide_eq_true qq_6;obtain⟨bD,hi030,_,hsz30,_⟩:=info_parts Qim;have hroom30:a.length≤co27:=(Kd.V_reads' HO_5.out).2.1;have hC30:Kd.F (Kd.int .u8) _ _ (some j) a.length a:=(Kd.V_at (base:=w.heap.size) HO_5.out).2.2;have bl:(0:Int)≤((d):Int):=of_decide_eq_true qq_6;have hcut30:=Qep (P:=Tryz.prog) 40 5 .i64 Tryz.underlying40 hi030 1 hsz30 (some j) a.length co27 (d) bl aw;have hr30:=Kd.F_cut (m:=((d):Int).toNat) (c:=co27) hC30 (by omega) hroom30;obtain⟨ba,hA30⟩:∃A1,A1=(if co27=((d):Int).toNat then(some j)else((some j):Option Addr).map (·.add (((d):Int).toNat*1))):=⟨_,rfl⟩;obtain⟨bb,hc30⟩:∃c1,c1=co27-((d):Int).toNat:=⟨_,rfl⟩;have Y:g.length=a.length-((d):Int).toNat:=(by rw[A.out,List.length_drop]<;>omega);rw[show(a).drop ((d):Int).toNat=g from A.out.symm]at hr30;replace hr30:Kd.F (Kd.int .u8) _ _ ba g.length g:=(by rw[hA30];exact hr30);rw[← Y,← hA30,← hc30]at hcut30;have v:=QA (show Kd.V (Kd.int .u8) 5 _ w.heap.size _ (.slice ba g.length bb) g from Kd.V_mk (by rw[Y,hc30];exact Nat.sub_le_sub_right hroom30 _) hr30);have ai:=QA (show g.length≤bb from by rw[Y,hc30];exact Nat.sub_le_sub_right hroom30 _);clear hr30 hC30 hroom30 hi030 hsz30 hc30;have KY30:=QA Y;have KA30:=QA hA30;clear Y hA30;replace aw:=eq_true aw))
             go_roundg k1
             case measure=>have:=HK1.out;omega
             case rel=>exact⟨(n),(g),H',⟨by have:=HK1.out;omega⟩,⟨by(with_reducible repeat(first|apply Kd.V_alloc|apply Kd.V_drewN|apply Kd.V_drew));exact HO_0.out⟩,⟨by(with_reducible repeat(first|apply Kd.R_alloc|apply Kd.R_drewN|apply Kd.R_drew));exact B.out⟩,⟨by(with_reducible repeat(first|apply Kd.V_alloc|apply Kd.V_drewN|apply Kd.V_drew));exact v.out⟩,⟨qq_b⟩⟩
           ·rw[if_neg ad]at H;exact absurd H (by simp)
          ·rw[if_neg af]at H;exact absurd H (by simp)
         ·rw[if_neg c10]at H;exact absurd H (by simp)
        ·rw[if_neg c9]at H;exact absurd H (by simp)
      ·rw[if_neg c6]at H;exact absurd H (by simp)
     ·rw[if_neg c5]at H;have bf:decide (0<(a.length:Int))=false:=decide_eq_false c5;have bg:decide (0<a.length)=false:=decide_eq_false (by omega);clear c5;replace H:=Option.bind_eq_some_iff.mp H;obtain⟨K,ax,H⟩:=H;have bc:=QA ax;clear ax;replace H:=Option.bind_eq_some_iff.mp H;obtain⟨bn,ay,H⟩:=H;have bd:=QA ay;clear ay
      by_cases aj:bn=true
      ·subst aj;rw[if_pos rfl]at H;simp only[Option.some.injEq,Prod.mk.injEq]at H;obtain⟨rfl,rfl⟩:=H;obtain⟨Ao34,co34,eo34⟩:=Kd.V_slice HO_5.out;subst eo34;obtain⟨Ao35,co35,eo35⟩:=Kd.R_slice HO_4.out;subst eo35
       go_wp2_with (first |((with_reducible refine Qif (f:=151) rfl ?_);refine Qgi (some 44) rfl rfl Tryz.func151 qq_2 rfl #[.slice Ao35 r.length co35] rfl qq_0 ?_;(with_reducible refine(Qam.calls _ _ r K _ ?side1 ?side2 bc.out).mono ?_);(case side1=>repeat(first|exact(Kd.R_reads' HO_4.out).2.2 |(with_reducible refine Kd.C_alloc ?_ _) |(with_reducible refine Kd.C_drewN ?_ _) |(with_reducible refine Kd.C_drew ?_)));(case side2=>exact(Kd.R_reads' HO_4.out).2.1);rintro e bI ⟨bo,rfl,z,hb⟩;refine⟨_,rfl,?_⟩;have n_:=qn5 (Kd.V_elder' qq_14 (Kd.R_base z) hb) (Kd.R_elder' qq_11 (Kd.R_base z) hb) (Kd.V_elder' qq_13 (Kd.R_base z) hb) (Kd.R_lower (Kd.R_new' (Kd.R_newM (M:=fun k_=>(w.heap.size≤k_)) z (Qfc qq_b) (fun k_ h_=>h_)) (Kd.R_lt qq_11)) (Qfc qq_b)) (Qfd qq_b hb);clear HO_0 HO_4 HO_5 HB;obtain⟨HO_0,HO_4,HO_5,x,HB⟩:=n_;(try clear hb);(try clear hb2);(try clear hk);(try clear hi);(try clear z);obtain⟨Ao37,co37,eo37⟩:=Kd.R_slice x.out;subst eo37) |((with_reducible refine Qif (f:=96) rfl ?_);refine Qgi (some 46) rfl rfl Tryz.func96 qq_2 rfl #[.slice Ao37 K.length co37,.slice A0 l0.length c0] rfl qq_0 ?_;(with_reducible refine(Qae.calls _ _ K _ _ l0 true _ ?side1 ?side2 ?side3 ?side4 bd.out).mono ?_);(case side1=>repeat(first|exact(Kd.R_reads' x.out).2.2 |(with_reducible refine Kd.C_alloc ?_ _) |(with_reducible refine Kd.C_drewN ?_ _) |(with_reducible refine Kd.C_drew ?_)));(case side2=>exact(Kd.R_reads' x.out).2.1);(case side3=>repeat(first|exact(Kd.V_reads' HO_0.out).2.2 |(with_reducible refine Kd.C_alloc ?_ _) |(with_reducible refine Kd.C_drewN ?_ _) |(with_reducible refine Kd.C_drew ?_)));(case side4=>exact(Kd.V_reads' HO_0.out).2.1);rintro e w' ⟨rfl,⟨nd,rfl⟩⟩;refine⟨_,rfl,?_⟩))
       go_ret2
       exact⟨_,by first|rfl |(simp[Qik,Qil]<;>rfl) |(simp[*,Qik,Qil]<;>rfl),by(with_reducible repeat(first|apply Kd.R_alloc|apply Kd.R_drewN|apply Kd.R_drew));exact Kd.R_mono HO_4.out (fun _ hk=>hk.1),qq_b⟩
      ·replace aj:=Bool.eq_false_iff.mpr aj;subst aj;rw[if_neg (show ¬(false=true)by decide)]at H;simp only[Option.some.injEq,Prod.mk.injEq]at H;obtain⟨rfl,rfl⟩:=H;obtain⟨Ao38,co38,eo38⟩:=Kd.V_slice HO_5.out;subst eo38;obtain⟨Ao39,co39,eo39⟩:=Kd.R_slice HO_4.out;subst eo39
       go_wp2_with (first |((with_reducible refine Qif (f:=151) rfl ?_);refine Qgi (some 44) rfl rfl Tryz.func151 qq_2 rfl #[.slice Ao39 r.length co39] rfl qq_0 ?_;(with_reducible refine(Qam.calls _ _ r K _ ?side1 ?side2 bc.out).mono ?_);(case side1=>repeat(first|exact(Kd.R_reads' HO_4.out).2.2 |(with_reducible refine Kd.C_alloc ?_ _) |(with_reducible refine Kd.C_drewN ?_ _) |(with_reducible refine Kd.C_drew ?_)));(case side2=>exact(Kd.R_reads' HO_4.out).2.1);rintro e bJ ⟨bo,rfl,z,hb⟩;refine⟨_,rfl,?_⟩;have n_:=qn5 (Kd.V_elder' qq_14 (Kd.R_base z) hb) (Kd.R_elder' qq_11 (Kd.R_base z) hb) (Kd.V_elder' qq_13 (Kd.R_base z) hb) (Kd.R_lower (Kd.R_new' (Kd.R_newM (M:=fun k_=>(w.heap.size≤k_)) z (Qfc qq_b) (fun k_ h_=>h_)) (Kd.R_lt qq_11)) (Qfc qq_b)) (Qfd qq_b hb);clear HO_0 HO_4 HO_5 HB;obtain⟨HO_0,HO_4,HO_5,x,HB⟩:=n_;(try clear hb);(try clear hb2);(try clear hk);(try clear hi);(try clear z);obtain⟨Ao41,co41,eo41⟩:=Kd.R_slice x.out;subst eo41) |((with_reducible refine Qif (f:=96) rfl ?_);refine Qgi (some 46) rfl rfl Tryz.func96 qq_2 rfl #[.slice Ao41 K.length co41,.slice A0 l0.length c0] rfl qq_0 ?_;(with_reducible refine(Qae.calls _ _ K _ _ l0 false _ ?side1 ?side2 ?side3 ?side4 bd.out).mono ?_);(case side1=>repeat(first|exact(Kd.R_reads' x.out).2.2 |(with_reducible refine Kd.C_alloc ?_ _) |(with_reducible refine Kd.C_drewN ?_ _) |(with_reducible refine Kd.C_drew ?_)));(case side2=>exact(Kd.R_reads' x.out).2.1);(case side3=>repeat(first|exact(Kd.V_reads' HO_0.out).2.2 |(with_reducible refine Kd.C_alloc ?_ _) |(with_reducible refine Kd.C_drewN ?_ _) |(with_reducible refine Kd.C_drew ?_)));(case side4=>exact(Kd.V_reads' HO_0.out).2.1);rintro e w' ⟨rfl,⟨nd,rfl⟩⟩;refine⟨_,rfl,?_⟩))
       go_ret2
       exact⟨_,by first|rfl |(simp[Qik,Qil]<;>rfl) |(simp[*,Qik,Qil]<;>rfl),by first|exact Kd.R_nil _ _ _ _ _|exact Kd.N_nil _ _ _ _ _|exact Kd.V_nil _ _ _ _ _|exact Kd.Q_nil _ _ _ _ _|exact Kd.S_nil _ _ _ _ _,qq_b⟩
end Go.Proofs.YteaocbonofboeaaGreat.C
end
