/- Merged texts. -/
import Derived.Test.YteaocbonofboeaaGreatMC02
import Derived.Test.YteaocbonofboeaaGreatMC04
import Derived.Test.YteaocbonofboeaaGreatMC11
import Derived.Test.YteaocbonofboeaaGreatMC05
import Derived.Test.YteaocbonofboeaaGreatMC03
import Derived.Test.YteaocbonofboeaaGreatMC06
import Derived.Lib.IndexLaws
import Derived.Deep.RegionLaw
import Derived.Test.YteaocbonofboeaaGreatMC07
import Derived.Test.YteaocbonofboeaaGreatMC08
import Derived.Test.YteaocbonofboeaaGreatMC10
set_option linter.unusedVariables false
set_option linter.unusedSimpArgs false
set_option maxHeartbeats 8000000
set_option maxRecDepth 100000
section
namespace Go.Proofs.YteaocbonofboeaaGreat.C
open Go.RowKit Go.Proofs.YteaocbonofboeaaGreatW.PrintWords Go.Proofs.YteaocbonofboeaaGreatW.PrintLast Go.Proofs.YteaocbonofboeaaGreatW.PrintMore
attribute [local go_sem] Qhx Qhy Qhz Qia Qib Qic Qid Qie
def Qbl.f(k:Nat)(a0:ByteArray):Option (ByteArray):=(Qbd.f k 0 a0).bind fun t145=>((Qaz.f k t145 8).bind fun t146=>(if a0.size+t146.size≤9223372036854775807 then((Qbi.f k (a0++t146)).bind fun t147=>(if t147.size+1≤9223372036854775807 then(some (t147++(⟨#[0]⟩:ByteArray)))else(none)))else(none)))
theorem Qbl.calls(k:Nat)(a0:ByteArray)(r:ByteArray)(w:World)(h:Qbl.f k a0=some r) :
  Calls Tryz.prog 81 #[.string a0] w fun e w'=>e=.returned (.string r)∧Below w.heap.size w w':=by
 have HB:=QA (Below.refl w.heap.size w);have H:((Qbd.f k 0 a0).bind fun c=>((Qaz.f k c 8).bind fun a=>(if a0.size+a.size≤9223372036854775807 then((Qbi.f k (a0++a)).bind fun b=>(if b.size+1≤9223372036854775807 then(some (b++(⟨#[0]⟩:ByteArray)))else(none)))else(none))))=some r:=h;clear h;replace H:=Option.bind_eq_some_iff.mp H;obtain⟨c,d,H⟩:=H;have A2:=QA d;clear d;replace H:=Option.bind_eq_some_iff.mp H;obtain⟨a,g,H⟩:=H;have A3:=QA g;clear g
 by_cases c4:a0.size+a.size≤9223372036854775807
 ·rw[if_pos c4]at H;have l:=eq_true c4;have m:=decide_eq_true c4
  try have n:(9223372036854775807<a0.size+a.size)=False:=eq_false (Nat.not_lt.2 c4)
  replace H:=Option.bind_eq_some_iff.mp H;obtain⟨b,j,H⟩:=H;have A5:=QA j;clear j
  by_cases c6:b.size+1≤9223372036854775807
  ·rw[if_pos c6]at H;have o:=eq_true c6;have p:=decide_eq_true c6
   try have q:(9223372036854775807<b.size+1)=False:=eq_false (Nat.not_lt.2 c6)
   obtain rfl:=Option.some.inj H
   go_enter Tryz.func81,Tryz.ntmps81
   go_wp2_with (first |((with_reducible refine Qif (f:=134) rfl ?_);refine Qgi (some 5) rfl rfl Tryz.func134 qq_2 rfl #[.int .u64 0,.string a0] rfl qq_0 ?_;(with_reducible refine(Qbd.calls k 0 a0 c _ A2.out).mono ?_);rintro e w7 ⟨rfl,hb⟩;refine⟨_,rfl,?_⟩;have n_:=qn1 (Qfd qq_b hb);clear HB;have HB:=n_;clear n_;(try clear hb);(try clear hb2);(try clear hk);(try clear hi)) |((with_reducible refine Qif (f:=133) rfl ?_);refine Qgi (some 6) rfl rfl Tryz.func133 qq_2 rfl #[.int .u64 c,.int .i64 8] rfl qq_0 ?_;(with_reducible refine(Qaz.calls k c 8 a _ A3.out).mono ?_);rintro e w8 ⟨rfl,hb⟩;refine⟨_,rfl,?_⟩;have n_:=qn1 (Qfd qq_b hb);clear HB;have HB:=n_;clear n_;(try clear hb);(try clear hb2);(try clear hk);(try clear hi)) |((with_reducible refine Qif (f:=132) rfl ?_);refine Qgi (some 8) rfl rfl Tryz.func132 qq_2 rfl #[.string (a0++a)] rfl qq_0 ?_;(with_reducible refine(Qbi.calls k (a0++a) b _ A5.out).mono ?_);rintro e w9 ⟨rfl,hb⟩;refine⟨_,rfl,?_⟩;have n_:=qn1 (Qfd qq_b hb);clear HB;have HB:=n_;clear n_;(try clear hb);(try clear hb2);(try clear hk);(try clear hi)))
   go_ret
   exact⟨qq_5,qq_b⟩
  ·rw[if_neg c6]at H;exact absurd H (by simp)
 ·rw[if_neg c4]at H;exact absurd H (by simp)
def Qbk.f(k:Nat)(a0_0:Bool)(a0_1:Int)(a0_2:ByteArray)(a0_3:ByteArray):Option (ByteArray):=(Qbj.f k a0_0 a0_1 a0_2 a0_3).bind fun t162=>((Qbl.f k t162).bind fun t163=>(some t163))
theorem Qbk.calls(k:Nat)(a:Bool)(b:Int)(c:ByteArray)(d:ByteArray)(r:ByteArray)(w:World)(h:Qbk.f k a b c d=some r) :
  Calls Tryz.prog 37 #[.agg #[.bool a,.int .u64 b,.string c,.string d]] w fun e w'=>e=.returned (.string r)∧Below w.heap.size w w':=by
 have hu37:=Tryz.underlying37;have HB:=QA (Below.refl w.heap.size w);have H:((Qbj.f k a b c d).bind fun m=>((Qbl.f k m).bind fun n=>(some n)))=some r:=h;clear h;replace H:=Option.bind_eq_some_iff.mp H;obtain⟨m,p,H⟩:=H;have A2:=QA p;clear p;replace H:=Option.bind_eq_some_iff.mp H;obtain⟨n,q,H⟩:=H;have A3:=QA q;clear q;obtain rfl:=Option.some.inj H
 go_enter Tryz.func37,Tryz.ntmps37
 go_wp2_with (first |((with_reducible refine Qfn (N:=1) rfl ?_);refine qq_e 1 #[.bool a,.int .u64 b,.string c,.string d] 37 ?_;intro l hg w4 hbox hb;have n_:=qn4 (Qfd qq_b hb) (hbox) (qq_s hg:w.heap.size≤l) (qq_s hg:w.heap.size≤l);clear HB;obtain⟨HB,j,x,y⟩:=n_;clear hb hbox hg;obtain⟨s,t,u,v⟩:=qc4 j.out;have z:=Qdp j.out) |((with_reducible refine Qif (f:=82) rfl ?_);refine Qgi (some 4) rfl rfl Tryz.func82 qq_2 rfl #[.agg #[.bool a,.int .u64 b,.string c,.string d]] rfl qq_0 ?_;(with_reducible refine(Qbj.calls k a b c d m _ A2.out).mono ?_);rintro e w6 ⟨rfl,hb⟩;refine⟨_,rfl,?_⟩;have n_:=qn2 (Qed (g:=l) (o:=.cells #[.bool a,.int .u64 b,.string c,.string d] 37 (0,0)) qq_1 hb) (Qfd qq_b hb);clear j HB;obtain⟨j,HB⟩:=n_;(try clear hb);(try clear hb2);(try clear hk);(try clear hi)) |((with_reducible refine Qif (f:=81) rfl ?_);refine Qgi (some 5) rfl rfl Tryz.func81 qq_2 rfl #[.string m] rfl qq_0 ?_;(with_reducible refine(Qbl.calls k m n _ A3.out).mono ?_);rintro e w7 ⟨rfl,hb⟩;refine⟨_,rfl,?_⟩;have n_:=qn2 (Qed (g:=l) (o:=.cells #[.bool a,.int .u64 b,.string c,.string d] 37 (0,0)) qq_1 hb) (Qfd qq_b hb);clear j HB;obtain⟨j,HB⟩:=n_;(try clear hb);(try clear hb2);(try clear hk);(try clear hi)))
 go_ret
 exact⟨qq_5,qq_b⟩
def fascicleref09_Head.T1:Bool × List (List Nat × List Nat):=(true,[([],[]),([0],[0]),([1],[1]),([2],[2]),([3],[3]),([],[]),([5],[5]),([6],[6]),([7],[7]),([4,8],[4,8]),([],[]),([10,8],[10]),([9,11],[9,11]),([12,11],[12]),([13,13,0,1,2,3,4,5,6,7,8,9,10,11,12,13],[13])])
def fascicleref09_Head.B1:List Nat:=[0,1,3,7,15,0,32,96,224,511,0,1504,4095,8191,16383]
def fascicleref14_Empty.T1:Bool × List (List Nat × List Nat):=(true,[([],[]),([],[]),([],[]),([],[]),([2,3],[2,3]),([4],[4]),([0,1,5],[0,1,5]),([6,4,0,1,2,3,4,5,6],[6])])
def fascicleref14_Empty.B1:List Nat:=[0,0,0,0,12,28,63,127]
end Go.Proofs.YteaocbonofboeaaGreat.C
end
section
namespace Go.Proofs.YteaocbonofboeaaGreat.C
open Go.RowKit Go.Proofs.YteaocbonofboeaaGreatW.PrintWords Go.Proofs.YteaocbonofboeaaGreatW.PrintLast Go.Proofs.YteaocbonofboeaaGreatW.PrintMore
attribute [local go_sem] Qhx Qhy Qhz Qia
theorem Qki:∃i,Tryz.prog.info? 5=some i∧i.size=1∧i.zero=some (.int .u8 0)∧i.bytes=1:=by
 have h:=Qim
 cases hh:Tryz.prog.info? 5 with
 | none=>rw[hh]at h;cases h
 | some i =>
  rw[hh]at h;simp only[Option.map_some,Option.some.injEq,Prod.mk.injEq]at h;exact⟨i,rfl,h.2.1,h.1,h.2.2⟩
theorem Qkj(A:Option Addr)(n c m:Nat)(j:Int)(hj:j=(m:Int))(hm:m≤n)(hc:n≤c) :
  ∃(A':Option Addr) (n' c':Nat),n'=n-m∧n'≤c'∧(∀W:World,(Instr.slice 40 (.slice A n c) (some (.int .i64 j)) none none).run Tryz.prog W=.ok (.slice A' n' c') W) ∧
   ∀(W:World) (xs:List Int),Kd.C (Kd.int .u8) W A n xs→Kd.C (Kd.int .u8) W A' n' (xs.drop m):=by
 subst hj;obtain⟨i,hi,hsz,_⟩:=Qki;refine⟨if c=m then A else A.map (·.add (m*1)),n-m,c-m,rfl,by omega,fun W=>?_,fun W xs hq=>?_⟩
 ·have h:=Qep (P:=Tryz.prog) 40 5 .i64 Tryz.underlying40 hi 1 hsz A n c (m:Int) (by omega) (by omega) W;rw[Int.toNat_natCast]at h;exact h
 ·have hl:=hq.1;subst hl;have h:=Kd.C_drop hq hm hc;rw[List.length_drop]at h;exact h
theorem c8_to(A:Option Addr)(n c m:Nat)(j:Int)(hj:j=(m:Int))(hm:m≤n)(hc:n≤c) :
  ∃(n':Nat),n'=m∧n'≤c∧(∀W:World,(Instr.slice 40 (.slice A n c) none (some (.int .i64 j)) none).run Tryz.prog W=.ok (.slice A n' c) W) ∧
   ∀(W:World) (xs:List Int),Kd.C (Kd.int .u8) W A n xs→Kd.C (Kd.int .u8) W A n' (xs.take m):=by
 subst hj;obtain⟨i,hi,hsz,_⟩:=Qki;refine⟨m,rfl,by omega,fun W=>?_,fun W xs hq=>?_⟩
 ·have h:=Qeo (P:=Tryz.prog) 40 5 .i64 Tryz.underlying40 hi A n c (m:Int) (by omega) (by omega) hc W;rw[Int.toNat_natCast]at h;exact h
 ·have hl:=hq.1;subst hl;have h:=Kd.C_take hq hm;rw[List.length_take,Nat.min_eq_left hm]at h;exact h
theorem ix_at{W:World}{A:Option Addr}{n c:Nat}{l:List Int}(v:Int)(hC:Kd.C (Kd.int .u8) W A n l)(hc:n≤c) :
  Calls Tryz.prog 68 #[.slice A n c,.int .u8 v] W fun e w'=>e=.returned (.int .i64 (ixOf l v))∧Drawn0 W w':=by
 have hl:=hC.1;subst hl;exact Qaf.calls A c l v _ W hC hc rfl
theorem Qkk(l:List Int)(c:Int):-1≤ixOf l c∧ixOf l c<l.length:=by
 unfold ixOf;refine⟨Lib.indexByte_ge _ _,?_⟩
 rcases Int.lt_or_le (Lib.indexByte (Lib.bytesOf l) c.toNat.toUInt8) 0 with h|h
 ·omega
 ·obtain⟨o,ho⟩:=Int.eq_ofNat_of_zero_le h;have h1:=(Lib.indexByte_some (o:=o) ho).1;have h2:=(List.getElem?_eq_some_iff.1 h1).1;have h3:(Lib.bytesOf l).length=l.length:=by simp[Lib.bytesOf]
  omega
theorem R8.cap(W:World)(cs:Array Value)(cap:Nat)(hsz:cs.size=cap*1)(hm:cap≤maxLen):R8 (W.alloc (.cells cs 5)) W.heap.size (.slice (some ⟨W.heap.size,0,none⟩) 0 cap) [] :=
 Kd.R_of_own ⟨by simp[encs],.inr ⟨W.heap.size,cap,cs,rfl,Nat.le_refl _,heap_alloc_new W _,Nat.zero_le _,hm,hsz,by simp[encs]⟩⟩ (fun _ _=>trivial)
def Qkl:Nat→List Int→List Int
 | 0,_=>[]
 | k+1,b =>
  if 0≤ixOf (b.take 254) 0 then((ixOf (b.take 254) 0+1)%256) :: (b.take (ixOf (b.take 254) 0).toNat++Qkl k (b.drop ((ixOf (b.take 254) 0).toNat+1)))
  else if 254<b.length then 255 :: (b.take 254++Qkl k (b.drop 254))
  else(((b.length:Int)+1)%256) :: b
def Qkm(b:List Int):List Int:=Qkl (b.length+1) b
theorem Qkn:∀(k:Nat) (b:List Int),b.length<k→∀j,Qkl (k+j) b=Qkl k b
 | 0,b,h,_=>by omega
 | k+1,b,h,j=>by
  rw[show k+1+j=(k+j)+1 by omega];unfold Qkl;split
  ·rename_i h0;have h1:=(Qkk (b.take 254) 0).2;rw[List.length_take]at h1;rw[Qkn k _ (by rw[List.length_drop];omega) j]
  ·split
   ·rw[Qkn k _ (by rw[List.length_drop];omega) j]
   ·rfl
theorem Qko(k:Nat)(b:List Int)(h:b.length<k):Qkl k b=Qkm b:=by
 have e:=Qkn (b.length+1) b (by omega) (k-(b.length+1));rw[show b.length+1+(k-(b.length+1))=k by omega]at e;exact e
theorem Qkp{b:List Int}{p:Nat}(h:ixOf (b.take 254) 0=(p:Int)):Qkm b=(((p:Int)+1)%256) :: (b.take p++Qkm (b.drop (p+1))):=by
 have h1:=(Qkk (b.take 254) 0).2;rw[List.length_take]at h1;have hp:p<b.length:=by omega
 rw[Qkm,Qkl,if_pos (by omega),h,Int.toNat_natCast,Qko _ _ (by rw[List.length_drop];omega)]
theorem Qkq{b:List Int}(h:ixOf (b.take 254) 0<0)(hl:254<b.length):Qkm b=255 :: (b.take 254++Qkm (b.drop 254)):=by
 rw[Qkm,Qkl,if_neg (by omega),if_pos hl,Qko _ _ (by rw[List.length_drop];omega)]
theorem Qkr{b:List Int}(h:ixOf (b.take 254) 0<0)(hl:¬254<b.length):Qkm b=(((b.length:Int)+1)%256) :: b:=by
 rw[Qkm,Qkl,if_neg (by omega),if_neg hl]
def most(n:Nat):Nat:=if n=0 then 1 else n+1+(n-1)/254
theorem most_is(n:Nat)(h:n≤140737488355328):Qal.f (n:Int)=some (most n:Int):=by
 unfold Qal.f most
 by_cases h0:n=0
 ·subst h0;rfl
 ·rw[if_neg (by omega),if_neg h0];have e1:wrap64 ((n:Int)-1)=(n:Int)-1:=by unfold wrap64;omega
  have e2:wrap64 ((n:Int)+1)=(n:Int)+1:=by unfold wrap64;omega
  rw[e1,e2];have e3:Int.tdiv ((n:Int)-1) 254=(((n-1)/254:Nat):Int):=by
   rw[show(n:Int)-1=((n-1:Nat):Int)by omega];rfl
  rw[e3];have e4:wrap64 (((n-1)/254:Nat):Int)=(((n-1)/254:Nat):Int):=by unfold wrap64;omega
  rw[e4];have e5:wrap64 ((n:Int)+1+(((n-1)/254:Nat):Int))=(n:Int)+1+(((n-1)/254:Nat):Int):=by unfold wrap64;omega
  rw[e5];simp
theorem Qks(A0:Option Addr)(c0:Nat)(l0:List Int)(w:World)(hr0:Kd.C (Kd.int .u8) w A0 l0.length l0)(hc0:l0.length≤c0)(hl:l0.length≤35184372088832) :
  Calls Tryz.prog 151 #[.slice A0 l0.length c0] w fun e w'=>∃r:Value,e=.returned (r)∧R8 w' w.heap.size r (Qkm l0)∧Below w.heap.size w w':=by
 obtain⟨i8,hi8,hs8,hz8,hb8⟩:=Qki;have hmost:most l0.length≤140737488355328:=by unfold most;split<;>omega
 have hrun:=fun W=>run_make (P:=Tryz.prog) W 40 5 i8 (.int .u8 0) Tryz.underlying40 hi8 hz8 .i64 .i64 0 (most l0.length:Int) (by omega) (by omega) (by rw[hb8];omega) (by omega)
 simp only[hs8]at hrun;have v:=QA hr0;clear hr0
 go_enter Tryz.func151,Tryz.ntmps151
 go_wp2_with (first |(go_at_call 196;refine(Qal.calls _ _ _ (most_is l0.length (by omega))).mono ?_;rintro e w' ⟨rfl,hd⟩;obtain⟨q,rfl⟩:=hd.out;clear hd))
 obtain⟨W0,hW0⟩:∃W0,W0=(w.drewN q).alloc (.cells (madeCells #[.int .u8 0] (most l0.length)) 5):=⟨_,rfl⟩;have s:=QA (show R8 W0 w.heap.size (.slice (some ⟨w.heap.size,0,none⟩) 0 (most l0.length)) []by rw[hW0];exact R8.cap (w.drewN q) _ _ (by simp[madeCells]) (by unfold maxLen;omega));have t:=QA (show Below w.heap.size w W0 by rw[hW0];exact Qcs (Qcr (Below.refl _ _) q) (Nat.le_refl _) (Qcp (Below.refl _ _) _));rw[← hW0];clear hW0 hrun
 go_loopw [0,3,4,24,41] (fun v0 v3 v4 y z wr=>∃(l' out:List Int) (A:Option Addr) (n c:Nat),v0=.slice A n c∧n≤c∧Aside0 (n=l'.length)∧n≤l0.length∧out.length+2*n≤2*l0.length∧Aside0 (Qkm l0=out++Qkm l')∧Aside0 (Kd.C (Kd.int .u8) w A n l')∧Aside0 (R8 wr w.heap.size v3 out)∧Aside0 (Below w.heap.size w wr))
  (fun v0 _ _ _ _ _=>lenV v0)
 case atStart=>exact⟨l0,[],A0,l0.length,c0,rfl,hc0,⟨rfl⟩,Nat.le_refl _,by simp,⟨rfl⟩,v,s,t⟩
 case round =>
  obtain⟨l',out,A,n,c,rfl,hnc,HN,B,hout,HS,HC,HR,HB⟩:=hrel;clear s t;obtain⟨x,hx⟩:∃x,x=ixOf (l'.take 254) 0:=⟨_,rfl⟩;have hxr:=Qkk (l'.take 254) 0;rw[← hx]at hxr;have hlt:=HN.out;have D:x<(n:Int)∧x<254:=by have:=hxr.2;rw[List.length_take]at this;omega
  have E:=hxr.1;have HX:=QA hx;clear hxr hlt hx;obtain⟨m,hm,hC1,hmc⟩:∃m,(m=if 254<n then 254 else n)∧Aside0 (Kd.C (Kd.int .u8) w A m (l'.take 254))∧m≤c:=by
   by_cases h:254<n
   ·refine⟨254,by rw[if_pos h],⟨?_⟩,by omega⟩;have h1:=HC.out;rw[HN.out]at h1;have h2:=Kd.C_take h1 (m:=254) qq_16;rw[List.length_take,Nat.min_eq_left qq_16]at h2;exact h2
   ·refine⟨n,by rw[if_neg h],⟨?_⟩,hnc⟩;rw[List.take_of_length_le qq_16];exact HC.out
  have HM:=QA hm
  by_cases hxz:0≤x
  ·obtain⟨p,rfl⟩:=Int.eq_ofNat_of_zero_le hxz;have hpn:(p:Int)≤(n:Int):=by omega
   have hp8:p<254:=by omega
   have hwp:IntKind.i64.wrap ((p:Int)+1)=(p:Int)+1:=IntWalk.i64_in _ (by omega);have hCp:=QA (show Kd.C (Kd.int .u8) w A p (l'.take p)by
    have h1:=HC.out;rw[HN.out]at h1;have h2:=Kd.C_take h1 (m:=p) qq_16;rw[List.length_take,Nat.min_eq_left qq_16]at h2;exact h2)
   obtain⟨p',hp',_,hcutp,_⟩:=c8_to A n c p p rfl (by omega) hnc;subst hp';obtain⟨A4,n4,c4,d,g,hcut4,hC4⟩:=Qkj A n c (p'+1) ((p':Int)+1) (by omega) (by omega) hnc;have HN4:=QA d;have u:n4<n:=by omega
   clear d
   by_cases hbig:254<n
   all_goals first|rw[if_pos hbig]at hm|rw[if_neg hbig]at hm
   all_goals
    subst hm
    go_wp2_with (first |(go_at_call 68;refine(ix_at 0 (Kd.C_below hC1.out HB.out) hmc).mono ?_;rw[← HX.out];rintro e w2 ⟨rfl,hd⟩;obtain⟨q2,rfl⟩:=hd.out;clear hd))
    obtain⟨W,hW⟩:∃W,W=(wr.drewN q2).drew:=⟨_,rfl⟩
    go_region_law (first
     |(refine Kd.R_append_step (Kd.int .u8) (w0:=w) w.heap.size (by rfl) (.tmp 27) (.tmp 31) 40 5 (.int .u8 0) 1 rfl Tryz.underlying40 Qim rfl (by decide) (by omega) u3 out (((p':Int)+1)%256) [.int .u8 (((p':Int)+1)%256)] (fun _=>True) (fun _=>False) rfl ?ax ?aP (fun _ hk=>hk.elim) (fun _ _=>trivial) ?aO ?aB ?aS ?aL ?_;(case ax=>rfl);(case aP=>rfl);(case aO=>exact Kd.R_drew (Kd.R_drewN HR.out q2));(case aB=>exact Qcq (Qcr HB.out q2));(case aS=>exact HB.out.size);(case aL=>omega);intro v1 w1 b hb1 l hat1)
     |(refine Kd.R_append_rows_step (Kd.int .u8) (Rr:=fun x cs=>cs=[.int .u8 x]) (w0:=w) w.heap.size (by rfl) (.tmp 32) (.tmp 35) 40 5 (.int .u8 0) 1 rfl Tryz.underlying40 Qim rfl (by decide) (by omega) v1 (out++[((p':Int)+1)%256]) (l'.take p') A p' c (fun _=>True) (fun _=>False) rfl rfl b ?bR (fun _ _ h=>h) (fun _ hk=>hk.elim) (fun _ _=>trivial) hb1 hb1.size ?bL ?_;(case bR=>exact Kd.C_below hCp.out hb1);(case bL=>simp;omega);intro v2 w2 a hb2 o hat2))
    all_goals
     have j:=QA a;have k:=QA hb2;clear b hb1 l hat1 a hb2 o hat2
     go_wp2_with fail
     go_roundw
     case rel=>exact⟨l'.drop (p'+1),out++[((p':Int)+1)%256]++l'.take p',A4,n4,c4,rfl,g,⟨by rw[List.length_drop];have:=HN4.out;have:=HN.out;omega⟩,by omega,by
       have:=HN.out;have:=HN4.out;simp only[List.length_append,List.length_singleton,List.length_take];omega,⟨by
       rw[HS.out,Qkp HX.out.symm];simp⟩,⟨hC4 _ _ HC.out⟩,j,k⟩
     case measure=>simp[lenV];omega
  ·have hxm:x=-1:=by omega
   subst hxm;have hix:ixOf (l'.take 254) 0<0:=by have:=HX.out;omega
   have HIX:=QA hix;clear hix
   by_cases hbig:254<n
   ·rw [if_pos hbig]at hm;subst hm;have hbi:(254:Int)<(n:Int):=by omega
    obtain⟨p',hp',_,hcutp,_⟩:=c8_to A n c 254 254 rfl (by omega) hnc;subst hp';obtain⟨A4,n4,c4,d,g,hcut4,hC4⟩:=Qkj A n c 254 254 rfl (by omega) hnc;have HN4:=QA d;have u:n4<n:=by omega
    clear d
    go_wp2_with (first |(go_at_call 68;refine(ix_at 0 (Kd.C_below hC1.out HB.out) hmc).mono ?_;rw[← HX.out];rintro e w2 ⟨rfl,hd⟩;obtain⟨q2,rfl⟩:=hd.out;clear hd))
    go_region_law (first
     |(refine Kd.R_append_step (Kd.int .u8) (w0:=w) w.heap.size (by rfl) (.tmp 45) (.tmp 46) 40 5 (.int .u8 0) 1 rfl Tryz.underlying40 Qim rfl (by decide) (by omega) u3 out 255 [.int .u8 255] (fun _=>True) (fun _=>False) rfl ?ax ?aP (fun _ hk=>hk.elim) (fun _ _=>trivial) ?aO ?aB ?aS ?aL ?_;(case ax=>rfl);(case aP=>rfl);(case aO=>exact Kd.R_drew (Kd.R_drewN HR.out q2));(case aB=>exact Qcq (Qcr HB.out q2));(case aS=>exact HB.out.size);(case aL=>omega);intro v1 w1 b hb1 l hat1)
     |(refine Kd.R_append_rows_step (Kd.int .u8) (Rr:=fun x cs=>cs=[.int .u8 x]) (w0:=w) w.heap.size (by rfl) (.tmp 47) (.tmp 49) 40 5 (.int .u8 0) 1 rfl Tryz.underlying40 Qim rfl (by decide) (by omega) v1 (out++[255]) (l'.take 254) A 254 c (fun _=>True) (fun _=>False) rfl rfl b ?bR (fun _ _ h=>h) (fun _ hk=>hk.elim) (fun _ _=>trivial) hb1 hb1.size ?bL ?_;(case bR=>exact Kd.C_below hC1.out hb1);(case bL=>simp;omega);intro v2 w2 a hb2 o hat2))
    all_goals
     have j:=QA a;have k:=QA hb2;clear b hb1 l hat1 a hb2 o hat2
     go_wp2_with fail
     go_roundw
     case rel=>exact⟨l'.drop 254,out++[255]++l'.take 254,A4,n4,c4,rfl,g,⟨by rw[List.length_drop];have:=HN4.out;have:=HN.out;omega⟩,by omega,by
       have:=HN.out;have:=HN4.out;simp only[List.length_append,List.length_singleton,List.length_take];omega,⟨by
       rw[HS.out,Qkq HIX.out qq_16];simp⟩,⟨hC4 _ _ HC.out⟩,j,k⟩
     case measure=>simp[lenV];omega
   ·rw[if_neg hbig]at hm;subst hm;have hbi:(m:Int)≤254:=by omega
    go_wp2_with (first
     |(go_at_call 68;refine(ix_at 0 (Kd.C_below hC1.out HB.out) hmc).mono ?_;rw[← HX.out];rintro e w2 ⟨rfl,hd⟩;obtain⟨q2,rfl⟩:=hd.out;clear hd)
     |(at_builtin;refine Kd.R_append (Kd.int .u8) (w0:=w) w.heap.size rfl (.tmp 15) (.tmp 20) 40 5 (.int .u8 0) 1 rfl Tryz.underlying40 Qim rfl (by decide) (by omega) u3 out ((m:Int)+1) [.int .u8 ((m:Int)+1)] (fun _=>True) (fun _=>False) rfl ?ax ?aP (fun _ hk=>hk.elim) ?aF ?aO ?aB ?aS ?aL ?_;(case ax=>rfl);(case aP=>rfl);(case aF=>exact fun _ _=>trivial);(case aO=>exact Kd.R_drewN HR.out q2);(case aB=>exact Qcr HB.out q2);(case aS=>exact HB.out.size);(case aL=>omega);intro v1 w1 b hb1 l hat1)
     |(at_builtin;refine Kd.R_append_rows (Kd.int .u8) (Rr:=fun x cs=>cs=[.int .u8 x]) (w0:=w) w.heap.size rfl (.tmp 21) (.tmp 22) 40 5 (.int .u8 0) 1 rfl Tryz.underlying40 Qim rfl (by decide) (by omega) v1 (out++[(m:Int)+1]) (l'.take 254) A m c (fun _=>True) (fun _=>False) rfl rfl b ?bR (fun _ _ h=>h) (fun _ hk=>hk.elim) (fun _ _=>trivial) hb1 hb1.size ?bL ?_;(case bR=>exact Kd.C_below hC1.out hb1);(case bL=>simp;omega);intro v2 w2 a hb2 o hat2))
    go_ret
    refine⟨v2,rfl,?_,hb2⟩;have hlm:=HN.out;rw[HS.out,Qkr HIX.out (by omega),← hlm];rw[List.take_of_length_le (by omega)]at a;rw[show((m:Int)+1)%256=(m:Int)+1 by omega]
    simpa using a
def Qam.f(l0:List Int):Option (List Int):=if l0.length≤35184372088832 then some (Qkm l0)else none
theorem Qam.calls(A0:Option Addr)(c0:Nat)(l0:List Int)(r:List Int)(w:World)(hr0:Kd.C (Kd.int .u8) w A0 l0.length l0)(hc0:l0.length≤c0)(h:Qam.f l0=some r) :
  Calls Tryz.prog 151 #[.slice A0 l0.length c0] w fun e w'=>∃v0_:Value,e=.returned (v0_)∧Kd.R (Kd.int .u8) 5 w' w.heap.size (fun _=>True) v0_ r∧Below w.heap.size w w':=by
 unfold Qam.f at h
 by_cases hl:l0.length≤35184372088832
 ·rw[if_pos hl]at h
  cases h
  exact Qks A0 c0 l0 w hr0 hc0 hl
 ·rw[if_neg hl]at h;cases h
def Qas.f(l0_0:List S158)(a0_1 a1 a2 a3:Int):Option Bool :=
 if l0_0.length≤140737488355328 then
  if mn a3 a1≤mx a2 0 then some false else(Qar.f l0_0 a0_1 a1).bind fun t=>if t<mn a3 a1 then some true else some (hitL (IntKind.u64.wrap (mx a2 0)) (IntKind.u64.wrap (mn a3 a1)) l0_0)
 else none
theorem Qas.calls(c:Option Addr)(d:Nat)(b:List S158)(j:Int)(a1:Int)(a2:Int)(a3:Int)(r:Bool)(w:World)(hr0_0:Kd.C k158 w c b.length b)(hc0_0:b.length≤d)(h:Qas.f b j a1 a2 a3=some r) :
  Calls Tryz.prog 43 #[.agg #[.slice c b.length d,.int .i64 j],.int .i64 a1,.int .i64 a2,.int .i64 a3] w fun e w'=>e=.returned (.bool r)∧Below w.heap.size w w':=by
 have hu:=Tryz.underlying158;have hu2:=Tryz.underlying81;have HR:=QA hr0_0;have HC:=QA hc0_0;have H:=QA h;clear hr0_0 hc0_0 h
 go_enter Tryz.func43,Tryz.ntmps43
 go_upto_region 1 with(fail)
 obtain⟨g,hg⟩:∃g,g=w.heap.size:=⟨_,rfl⟩;obtain⟨fb,hfb⟩:∃fb,fb=w.heap.size+1:=⟨_,rfl⟩;obtain⟨tb,htb⟩:∃tb,tb=w.heap.size+1+1:=⟨_,rfl⟩;obtain⟨W0,hW0⟩:∃W0,W0=(((w.alloc (.cells #[.slice c b.length d,.int .i64 j] 81)).alloc (.cells #[.int .i64 a2] 3)).alloc (.cells #[.int .i64 a3] 3)):=⟨_,rfl⟩;have s1:(w.alloc (.cells #[.slice c b.length d,.int .i64 j] 81)).heap.size=w.heap.size+1:=World.size_alloc _ _;have s2:((w.alloc (.cells #[.slice c b.length d,.int .i64 j] 81)).alloc (.cells #[.int .i64 a2] 3)).heap.size=w.heap.size+1+1:=by rw[World.size_alloc,s1]
 have BD:=QA (show W0.heap[g]? = some (.cells #[.slice c b.length d,.int .i64 j] 81 (0,0))by rw[hW0,hg];exact Qea (Qea (Qee w _) _) _);have BF:=QA (show W0.heap[fb]? = some (.cells #[.int .i64 a2] 3 (0,0))by rw[hW0,hfb,← s1];exact Qea (Qee _ _) _);have BT:=QA (show W0.heap[tb]? = some (.cells #[.int .i64 a3] 3 (0,0))by rw[hW0,htb,← s2];exact Qee _ _);have m:=QA (show Below w.heap.size w W0 by rw[hW0];exact Qcp (Qcp (Qcp (Below.refl _ _) _) _) _);have N1:=QA (show tb≠fb by omega);have N2:=QA (show g≠fb by omega);have N3:=QA (show fb≠tb by omega);have N4:=QA (show g≠tb by omega);have L1:=QA (show w.heap.size≤fb by omega);have L2:=QA (show w.heap.size≤tb by omega);rw[← hW0,← htb,← hfb,← hg];clear hW0 htb hfb s1 s2;have HG:=QA hg;clear hg;have hz0:=Qdp BF.out 0;have cF0:W0.drew.cell? ⟨fb,0,none⟩=some (.int .i64 a2):=(Qdo (Qeb BF.out) 0).trans rfl;refine Qfz (n:=7) (S:=fun w'=>w'.cell? ⟨tb,0,none⟩=some (.int .i64 a3)) (ds:=[6]) (bm 7 0) qq_2 rfl rfl (((Qdo (Qeb BT.out) 0).trans rfl)) (fun a=>?_);refine pz_ (i:=3) (N:=some 12) (bm 7 8) qq_2 ?_;refine take_ (i:=2) (N:=some 11) (v:=?_) (a':=?_) (bm 7 12) rfl rfl qq_2 (fun _ _ _ h=>h) (Or.inl ⟨by rfl,?_⟩) a ?_ ?_;rotate_left
 ·intro w' s0;go_simp;with_reducible rfl
 rotate_left
 ·simp only[Act.put,List.setIfInBounds_toArray,List.set_cons_zero,List.set_cons_succ,Qgk,Qgl];rfl
 refine pz_ (i:=4) (N:=some 13) (bm 7 28) qq_2 ?_;refine one_ (i:=0) (N:=some 9) (bm 7 29) rfl rfl qq_2 (by decide) (fun K hK=>?_);refine Qgj (w1:=?_) (v:=?_) (by rfl) rfl ?_ ?_;rotate_left 2
 ·go_simp
  constructor
  ·rfl
  ·rfl
 refine hK.out _ _ (a) (fun a=>?_);clear hK K;refine nzp_ 9 ?_;refine pz_ (i:=1) (N:=some 10) (bm 7 31) qq_2 ?_;refine one_ (i:=5) (N:=none) (bm 7 63) rfl rfl qq_2 (by decide) (fun K hK=>?_);refine skip_ (w1:=?_) (by rfl) rfl ?_ ?_;rotate_left
 ·go_simp;rfl
 obtain⟨W1,hW1⟩:∃W1,W1=(W0.setCell ⟨fb,0,none⟩ (.int .i64 (if a2<0 then 0 else a2))).drew:=⟨_,rfl⟩;rw[← hW1];have BF1:=QA (show W1.heap[fb]? = some (.cells #[.int .i64 (mx a2 0)] 3 (0,0))by rw[hW1];exact Qeb (Qfi BF.out 0 _ rfl));have BT1:=QA (show W1.heap[tb]? = some (.cells #[.int .i64 a3] 3 (0,0))by rw[hW1];exact Qeb (Qdm (p:=⟨fb,0,none⟩) BT.out N1.out _));have BD1:=QA (show W1.heap[g]? = some (.cells #[.slice c b.length d,.int .i64 j] 81 (0,0))by rw[hW1];exact Qeb (Qdm (p:=⟨fb,0,none⟩) BD.out N2.out _));have o:=QA (show Below w.heap.size w W1 by rw[hW1];exact Qcq (Qff m.out L1.out));clear hW1;have hz1:=Qdp BT1.out 0;refine hK.out _ _ (((Qdo BT1.out 0).trans rfl)) (fun a=>?_);clear hK K;refine last_ (i:=6) (N:=none) (bm 7 127) rfl rfl qq_2 (by decide) (fun K hK=>?_);refine skip_ (w1:=?_) (by rfl) rfl ?_ ?_;rotate_left
 ·go_simp;rfl
 obtain⟨W2,hW2⟩:∃W2,W2=W1.setCell ⟨tb,0,none⟩ (.int .i64 (if a1<a3 then a1 else a3)):=⟨_,rfl⟩;rw[← hW2];have BF2:=QA (show W2.heap[fb]? = some (.cells #[.int .i64 (mx a2 0)] 3 (0,0))by rw[hW2];exact Qdm (p:=⟨tb,0,none⟩) BF1.out N3.out _);have BT2:=QA (show W2.heap[tb]? = some (.cells #[.int .i64 (mn a3 a1)] 3 (0,0))by rw[hW2];exact Qfi BT1.out 0 _ rfl);have BD2:=QA (show W2.heap[g]? = some (.cells #[.slice c b.length d,.int .i64 j] 81 (0,0))by rw[hW2];exact Qdm (p:=⟨tb,0,none⟩) BD1.out N4.out _);have k:=QA (show Below w.heap.size w W2 by rw[hW2];exact Qff o.out L2.out);clear hW2;refine hK.out _ _ ?_;clear hK K;refine Qgd qq_2 ?_;clear cF0 hz0 hz1;obtain⟨F,hF⟩:∃F:Int,F=(if a2<0 then 0 else a2):=⟨_,rfl⟩;obtain⟨T,hT⟩:∃T:Int,T=(if a1<a3 then a1 else a3):=⟨_,rfl⟩;have hF2:mx a2 0=F:=hF.symm;have hT2:mn a3 a1=T:=hT.symm;unfold Qas.f at H;rw[hF2]at BF2 H;rw[hT2]at BT2 H;rw[← hF,← hT];clear hF2 hT2 hF hT BF BT BD BF1 BT1 BD1 m o;have cF:=(Qdo BF2.out 0).trans (show _=some (Value.int .i64 F) from rfl);have cT:=(Qdo BT2.out 0).trans (show _=some (Value.int .i64 T) from rfl);have h:=H.out;clear H
 by_cases hl:b.length≤140737488355328
 ·rw [if_pos hl]at h;have HLL:=QA hl;clear hl
  by_cases h1:T≤F
  ·rw[if_pos h1]at h;obtain rfl:=Option.some.inj h;have c1:decide (T≤F)=true:=decide_eq_true h1;clear h1 h;go_wp2;go_ret
   exact⟨rfl,k.out⟩
  ·rw[if_neg h1]at h;have c1:decide (T≤F)=false:=decide_eq_false h1;clear h1;obtain⟨t,ht,h⟩:=Option.bind_eq_some_iff.mp h;have HL:=QA ht;clear ht
   go_upto_region 4 with(fail)
   clear cF cT
   by_cases h2:t<T
   ·rw[if_pos h2]at h;obtain rfl:=Option.some.inj h;have c2:decide (t<T)=true:=decide_eq_true h2;clear h2 h;refine Qfz (n:=12) (S:=fun w'=>w'.cell? ⟨tb,0,none⟩=some (.int .i64 T)∧w'.cell? ⟨g,0,none⟩=some (.slice c b.length d)∧w'.cell? ⟨g,1,none⟩=some (.int .i64 j)) (ds:=[]) (bm 12 0) qq_2 rfl rfl ⟨((Qdo (Qeb BT2.out) 0).trans rfl),((Qdo (Qeb BD2.out) 0).trans rfl),((Qdo (Qeb BD2.out) 1).trans rfl)⟩ (fun a=>?_);refine pz_ (i:=2) (N:=some 19) (bm 12 4) qq_2 ?_;refine tz_ (i:=0) (N:=some 17) (bm 12 5) qq_2 a ?_;refine tz_ (i:=1) (N:=some 18) (bm 12 7) qq_2 a ?_;refine one_ (i:=3) (N:=some 20) (bm 12 15) rfl rfl qq_2 (by decide) (fun K hK=>?_);refine Qgh Tryz.func83 qq_2 rfl #[.agg #[.slice c b.length d,.int .i64 j],.int .i64 a1] (by rfl) rfl rfl (by simp only[List.map_toArray,List.map_cons,List.map_nil];rfl) ?_;with_reducible refine(Qar.calls c d b j a1 t _ (Kd.C_below HR.out (Qcq k.out)) HC.out HL.out).mono ?_
    rintro ee w3 ⟨rfl,hb3⟩;refine⟨_,rfl,?_⟩;have l:=QA (Qcs (Qcq k.out) (Qcq k.out).size hb3);have BF3:=QA (Qed (Qeb BF2.out) hb3);have BT3:=QA (Qed (Qeb BT2.out) hb3);refine hK.out _ _ ⟨(Qct hb3 a.1),(Qct hb3 a.2.1),(Qct hb3 a.2.2)⟩ (fun a=>?_);clear hK K;refine nzp_ 20 ?_;refine pz_ (i:=4) (N:=some 21) (bm 12 31) qq_2 ?_;refine pz_ (i:=5) (N:=some 22) (bm 12 63) qq_2 ?_;refine Qgb (i:=6) (N:=some 23) (v:=undef) (a':=?_) (bm 12 127) rfl rfl qq_2 (fun _ _ _ h=>h) (Or.inr ⟨by rfl,rfl⟩) ?_ ?_;rotate_left
    ·simp only[Act.put,List.setIfInBounds_toArray,List.set_cons_zero,List.set_cons_succ,Qgk,Qgl];rfl
    refine Qgb (i:=7) (N:=some 24) (v:=undef) (a':=?_) (bm 12 255) rfl rfl qq_2 (fun _ _ _ h=>h) (Or.inr ⟨by rfl,rfl⟩) ?_ ?_;rotate_left
    ·simp only[Act.put,List.setIfInBounds_toArray,List.set_cons_zero,List.set_cons_succ,Qgk,Qgl];rfl
    refine Qgb (i:=8) (N:=some 25) (v:=undef) (a':=?_) (bm 12 511) rfl rfl qq_2 (fun _ _ _ h=>h) (Or.inr ⟨by rfl,rfl⟩) ?_ ?_;rotate_left
    ·simp only[Act.put,List.setIfInBounds_toArray,List.set_cons_zero,List.set_cons_succ,Qgk,Qgl];rfl
    refine Qgb (i:=9) (N:=some 26) (v:=undef) (a':=?_) (bm 12 1023) rfl rfl qq_2 (fun _ _ _ h=>h) (Or.inr ⟨by rfl,rfl⟩) ?_ ?_;rotate_left
    ·simp only[Act.put,List.setIfInBounds_toArray,List.set_cons_zero,List.set_cons_succ,Qgk,Qgl];rfl
    refine pz_ (i:=10) (N:=some 27) (bm 12 2047) qq_2 ?_;refine pz_ (i:=11) (N:=some 8) (bm 12 4095) qq_2 ?_;refine Qgd qq_2 ?_;go_wp2;go_ret
    exact⟨rfl,l.out⟩
   ·rw[if_neg h2]at h;obtain rfl:=Option.some.inj h;have c2:decide (t<T)=false:=decide_eq_false h2;clear h2 h;refine Qfz (n:=12) (S:=fun w'=>w'.cell? ⟨tb,0,none⟩=some (.int .i64 T)∧w'.cell? ⟨g,0,none⟩=some (.slice c b.length d)∧w'.cell? ⟨g,1,none⟩=some (.int .i64 j)) (ds:=[]) (bm 12 0) qq_2 rfl rfl ⟨((Qdo (Qeb BT2.out) 0).trans rfl),((Qdo (Qeb BD2.out) 0).trans rfl),((Qdo (Qeb BD2.out) 1).trans rfl)⟩ (fun a=>?_);refine pz_ (i:=2) (N:=some 19) (bm 12 4) qq_2 ?_;refine tz_ (i:=0) (N:=some 17) (bm 12 5) qq_2 a ?_;refine tz_ (i:=1) (N:=some 18) (bm 12 7) qq_2 a ?_;refine one_ (i:=3) (N:=some 20) (bm 12 15) rfl rfl qq_2 (by decide) (fun K hK=>?_);refine Qgh Tryz.func83 qq_2 rfl #[.agg #[.slice c b.length d,.int .i64 j],.int .i64 a1] (by rfl) rfl rfl (by simp only[List.map_toArray,List.map_cons,List.map_nil];rfl) ?_;with_reducible refine(Qar.calls c d b j a1 t _ (Kd.C_below HR.out (Qcq k.out)) HC.out HL.out).mono ?_
    rintro ee w3 ⟨rfl,hb3⟩;refine⟨_,rfl,?_⟩;have l:=QA (Qcs (Qcq k.out) (Qcq k.out).size hb3);have BF3:=QA (Qed (Qeb BF2.out) hb3);have BT3:=QA (Qed (Qeb BT2.out) hb3);refine hK.out _ _ ⟨(Qct hb3 a.1),(Qct hb3 a.2.1),(Qct hb3 a.2.2)⟩ (fun a=>?_);clear hK K;refine nzp_ 20 ?_;refine pz_ (i:=4) (N:=some 21) (bm 12 31) qq_2 ?_;refine pz_ (i:=5) (N:=some 22) (bm 12 63) qq_2 ?_;refine pz_ (i:=6) (N:=some 23) (bm 12 127) qq_2 ?_;refine pz_ (i:=8) (N:=some 25) (bm 12 383) qq_2 ?_;refine tz_ (i:=7) (N:=some 24) (bm 12 511) qq_2 a ?_;refine one_ (i:=9) (N:=some 26) (bm 12 1023) rfl rfl qq_2 (by decide) (fun K hK=>?_);refine Qgh Tryz.func84 qq_2 rfl #[.slice c b.length d,.func (.func 85) #[] #[.pointer (some ⟨fb,0,none⟩),.pointer (some ⟨tb,0,none⟩)]] (by rfl) rfl rfl (by simp only[List.map_toArray,List.map_cons,List.map_nil];rfl) ?_;with_reducible refine(hasE_of c d b F T fb tb _ (Kd.C_below HR.out l.out) HLL.out ((Qdo BF3.out 0).trans rfl) ((Qdo BT3.out 0).trans rfl)).mono ?_
    rintro ee w4 ⟨rfl,hb4⟩;refine⟨_,rfl,?_⟩;refine hK.out _ _ ⟨(Qct hb4 a.1),(Qct hb4 a.2.1),(Qct hb4 a.2.2)⟩ (fun a=>?_);clear hK K;refine nzp_ 26 ?_;refine pz_ (i:=10) (N:=some 27) (bm 12 2047) qq_2 ?_;refine pz_ (i:=11) (N:=some 8) (bm 12 4095) qq_2 ?_;refine Qgd qq_2 ?_;go_wp2;go_ret
    exact⟨rfl,Qcs l.out l.out.size hb4⟩
 ·rw[if_neg hl]at h
  cases h
end Go.Proofs.YteaocbonofboeaaGreat.C
end
