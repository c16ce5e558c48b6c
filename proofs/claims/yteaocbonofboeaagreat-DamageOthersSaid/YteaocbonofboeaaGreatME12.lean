/- Merged texts. -/
import Derived.Test.YteaocbonofboeaaGreatME02
import Derived.Lib.IndexLaws
import Derived.Deep.RegionLaw
import Derived.Test.YteaocbonofboeaaGreatME03
import Derived.Test.YteaocbonofboeaaGreatME07
import Derived.Test.YteaocbonofboeaaGreatME10
set_option linter.unusedVariables false
set_option linter.unusedSimpArgs false
set_option maxHeartbeats 8000000
set_option maxRecDepth 100000
section
namespace Go.Proofs.YteaocbonofboeaaGreat.C
open Go.RowKit Go.Proofs.YteaocbonofboeaaGreatW.PrintWords Go.Proofs.YteaocbonofboeaaGreatW.PrintLast Go.Proofs.YteaocbonofboeaaGreatW.PrintMore
attribute [local go_sem] Qie Qif Qig Qih
theorem Qko:∃i,Tryz.prog.info? 5=some i∧i.size=1∧i.zero=some (.int .u8 0)∧i.bytes=1:=by
 have h:=Qit
 cases hh:Tryz.prog.info? 5 with
 | none=>rw[hh]at h;cases h
 | some i =>
  rw[hh]at h;simp only[Option.map_some,Option.some.injEq,Prod.mk.injEq]at h;exact⟨i,rfl,h.2.1,h.1,h.2.2⟩
theorem Qkp(A:Option Addr)(n c m:Nat)(j:Int)(hj:j=(m:Int))(hm:m≤n)(hc:n≤c) :
  ∃(A':Option Addr) (n' c':Nat),n'=n-m∧n'≤c'∧(∀W:World,(Instr.slice 40 (.slice A n c) (some (.int .i64 j)) none none).run Tryz.prog W=.ok (.slice A' n' c') W) ∧
   ∀(W:World) (xs:List Int),Kd.C (Kd.int .u8) W A n xs→Kd.C (Kd.int .u8) W A' n' (xs.drop m):=by
 subst hj;obtain⟨i,hi,hsz,_⟩:=Qko;refine⟨if c=m then A else A.map (·.add (m*1)),n-m,c-m,rfl,by omega,fun W=>?_,fun W xs hq=>?_⟩
 ·have h:=Qeu (P:=Tryz.prog) 40 5 .i64 Tryz.underlying40 hi 1 hsz A n c (m:Int) (by omega) (by omega) W;rw[Int.toNat_natCast]at h;exact h
 ·have hl:=hq.1;subst hl;have h:=Kd.C_drop hq hm hc;rw[List.length_drop]at h;exact h
theorem c8_to(A:Option Addr)(n c m:Nat)(j:Int)(hj:j=(m:Int))(hm:m≤n)(hc:n≤c) :
  ∃(n':Nat),n'=m∧n'≤c∧(∀W:World,(Instr.slice 40 (.slice A n c) none (some (.int .i64 j)) none).run Tryz.prog W=.ok (.slice A n' c) W) ∧
   ∀(W:World) (xs:List Int),Kd.C (Kd.int .u8) W A n xs→Kd.C (Kd.int .u8) W A n' (xs.take m):=by
 subst hj;obtain⟨i,hi,hsz,_⟩:=Qko;refine⟨m,rfl,by omega,fun W=>?_,fun W xs hq=>?_⟩
 ·have h:=Qet (P:=Tryz.prog) 40 5 .i64 Tryz.underlying40 hi A n c (m:Int) (by omega) (by omega) hc W;rw[Int.toNat_natCast]at h;exact h
 ·have hl:=hq.1;subst hl;have h:=Kd.C_take hq hm;rw[List.length_take,Nat.min_eq_left hm]at h;exact h
theorem ix_at{W:World}{A:Option Addr}{n c:Nat}{l:List Int}(v:Int)(hC:Kd.C (Kd.int .u8) W A n l)(hc:n≤c) :
  Calls Tryz.prog 68 #[.slice A n c,.int .u8 v] W fun e w'=>e=.returned (.int .i64 (ixOf l v))∧Drawn0 W w':=by
 have hl:=hC.1;subst hl;exact Qaf.calls A c l v _ W hC hc rfl
theorem Qkq(l:List Int)(c:Int):-1≤ixOf l c∧ixOf l c<l.length:=by
 unfold ixOf;refine⟨Lib.indexByte_ge _ _,?_⟩
 rcases Int.lt_or_le (Lib.indexByte (Lib.bytesOf l) c.toNat.toUInt8) 0 with h|h
 ·omega
 ·obtain⟨o,ho⟩:=Int.eq_ofNat_of_zero_le h;have h1:=(Lib.indexByte_some (o:=o) ho).1;have h2:=(List.getElem?_eq_some_iff.1 h1).1;have h3:(Lib.bytesOf l).length=l.length:=by simp[Lib.bytesOf]
  omega
theorem R8.cap(W:World)(cs:Array Value)(cap:Nat)(hsz:cs.size=cap*1)(hm:cap≤maxLen):R8 (W.alloc (.cells cs 5)) W.heap.size (.slice (some ⟨W.heap.size,0,none⟩) 0 cap) [] :=
 Kd.R_of_own ⟨by simp[encs],.inr ⟨W.heap.size,cap,cs,rfl,Nat.le_refl _,heap_alloc_new W _,Nat.zero_le _,hm,hsz,by simp[encs]⟩⟩ (fun _ _=>trivial)
def Qkr:Nat→List Int→List Int
 | 0,_=>[]
 | k+1,b =>
  if 0≤ixOf (b.take 254) 0 then((ixOf (b.take 254) 0+1)%256) :: (b.take (ixOf (b.take 254) 0).toNat++Qkr k (b.drop ((ixOf (b.take 254) 0).toNat+1)))
  else if 254<b.length then 255 :: (b.take 254++Qkr k (b.drop 254))
  else(((b.length:Int)+1)%256) :: b
def Qks(b:List Int):List Int:=Qkr (b.length+1) b
theorem Qkt:∀(k:Nat) (b:List Int),b.length<k→∀j,Qkr (k+j) b=Qkr k b
 | 0,b,h,_=>by omega
 | k+1,b,h,j=>by
  rw[show k+1+j=(k+j)+1 by omega];unfold Qkr;split
  ·rename_i h0;have h1:=(Qkq (b.take 254) 0).2;rw[List.length_take]at h1;rw[Qkt k _ qq_24 j]
  ·split
   ·rw[Qkt k _ qq_24 j]
   ·rfl
theorem Qku(k:Nat)(b:List Int)(h:b.length<k):Qkr k b=Qks b:=by
 have e:=Qkt (b.length+1) b (by omega) (k-(b.length+1));rw[show b.length+1+(k-(b.length+1))=k by omega]at e;exact e
theorem Qkv{b:List Int}{p:Nat}(h:ixOf (b.take 254) 0=(p:Int)):Qks b=(((p:Int)+1)%256) :: (b.take p++Qks (b.drop (p+1))):=by
 have h1:=(Qkq (b.take 254) 0).2;rw[List.length_take]at h1;have hp:p<b.length:=by omega
 rw[Qks,Qkr,if_pos (by omega),h,Int.toNat_natCast,Qku _ _ qq_24]
theorem Qkw{b:List Int}(h:ixOf (b.take 254) 0<0)(hl:254<b.length):Qks b=255 :: (b.take 254++Qks (b.drop 254)):=by
 rw[Qks,Qkr,if_neg (by omega),if_pos hl,Qku _ _ qq_24]
theorem Qkx{b:List Int}(h:ixOf (b.take 254) 0<0)(hl:¬254<b.length):Qks b=(((b.length:Int)+1)%256) :: b:=by
 rw[Qks,Qkr,if_neg (by omega),if_neg hl]
def most(n:Nat):Nat:=if n=0 then 1 else n+1+(n-1)/254
theorem most_is(n:Nat)(h:n≤140737488355328):Qal.f (n:Int)=some (most n:Int):=by
 unfold Qal.f most
 by_cases h0:n=0
 ·subst h0;rfl
 ·rw[if_neg (by omega),if_neg h0];have e1:wrap64 ((n:Int)-1)=(n:Int)-1:=by unfold wrap64;omega
  have e2:wrap64 ((n:Int)+1)=(n:Int)+1:=by unfold wrap64;omega
  rw[e1,e2];have e3:Int.tdiv ((n:Int)-1) 254=(((n-1)/254:Nat):Int):=by
   rw[show(n:Int)-1=((n-1:Nat):Int)by omega];rfl
  rw[e3];have e4:wrap64 (((n-1)/254:Nat):Int)=(((n-1)/254:Nat):Int):=by unfold wrap64;omega
  rw[e4];have e5:wrap64 ((n:Int)+1+(((n-1)/254:Nat):Int))=(n:Int)+1+(((n-1)/254:Nat):Int):=by unfold wrap64;omega
  rw[e5];simp
theorem Qky(A0:Option Addr)(c0:Nat)(l0:List Int)(w:World)(hr0:Kd.C (Kd.int .u8) w A0 l0.length l0)(hc0:l0.length≤c0)(hl:l0.length≤35184372088832) :
  Calls Tryz.prog 151 #[.slice A0 l0.length c0] w fun e w'=>∃r:Value,e=.returned (r)∧R8 w' w.heap.size r (Qks l0)∧Below w.heap.size w w':=by
 obtain⟨i8,hi8,hs8,hz8,hb8⟩:=Qko;have hmost:most l0.length≤140737488355328:=by unfold most;split<;>omega
 have hrun:=fun W=>run_make (P:=Tryz.prog) W 40 5 i8 (.int .u8 0) Tryz.underlying40 hi8 hz8 .i64 .i64 0 (most l0.length:Int) (by omega) (by omega) (by rw[hb8];omega) (by omega)
 simp only[hs8]at hrun;have v:=QA hr0;clear hr0
 go_enter Tryz.func151,Tryz.ntmps151
 go_wp2_with (first |(go_at_call 196;refine(Qal.calls _ _ _ (most_is l0.length (by omega))).mono ?_;rintro e w' ⟨rfl,hd⟩;obtain⟨q,rfl⟩:=hd.out;clear hd))
 obtain⟨W0,hW0⟩:∃W0,W0=(w.drewN q).alloc (.cells (madeCells #[.int .u8 0] (most l0.length)) 5):=⟨_,rfl⟩;have s:=QA (show R8 W0 w.heap.size (.slice (some ⟨w.heap.size,0,none⟩) 0 (most l0.length)) []by rw[hW0];exact R8.cap (w.drewN q) _ _ (by simp[madeCells]) (by unfold maxLen;omega));have t:=QA (show Below w.heap.size w W0 by rw[hW0];exact Qcv (Qcu (Below.refl _ _) q) (Nat.le_refl _) (Qcs (Below.refl _ _) _));rw[← hW0];clear hW0 hrun
 go_loopw [0,3,4,24,41] (fun v0 v3 v4 y z wr=>∃(l' out:List Int) (A:Option Addr) (n c:Nat),v0=.slice A n c∧n≤c∧Aside0 (n=l'.length)∧n≤l0.length∧out.length+2*n≤2*l0.length∧Aside0 (Qks l0=out++Qks l')∧Aside0 (Kd.C (Kd.int .u8) w A n l')∧Aside0 (R8 wr w.heap.size v3 out)∧Aside0 (Below w.heap.size w wr))
  (fun v0 _ _ _ _ _=>lenV v0)
 case atStart=>exact⟨l0,[],A0,l0.length,c0,rfl,hc0,⟨rfl⟩,Nat.le_refl _,by simp,⟨rfl⟩,v,s,t⟩
 case round =>
  obtain⟨l',out,A,n,c,rfl,hnc,HN,B,hout,HS,HC,HR,HB⟩:=hrel;clear s t;obtain⟨x,hx⟩:∃x,x=ixOf (l'.take 254) 0:=⟨_,rfl⟩;have hxr:=Qkq (l'.take 254) 0;rw[← hx]at hxr;have hlt:=HN.out;have D:x<(n:Int)∧x<254:=by have:=hxr.2;rw[List.length_take]at this;omega
  have E:=hxr.1;have HX:=QA hx;clear hxr hlt hx;obtain⟨m,hm,hC1,hmc⟩:∃m,(m=if 254<n then 254 else n)∧Aside0 (Kd.C (Kd.int .u8) w A m (l'.take 254))∧m≤c:=by
   by_cases h:254<n
   ·refine⟨254,by rw[if_pos h],⟨?_⟩,by omega⟩;have h1:=HC.out;rw[HN.out]at h1;have h2:=Kd.C_take h1 (m:=254) qq_26;rw[List.length_take,Nat.min_eq_left qq_26]at h2;exact h2
   ·refine⟨n,by rw[if_neg h],⟨?_⟩,hnc⟩;rw[List.take_of_length_le qq_26];exact HC.out
  have HM:=QA hm
  by_cases hxz:0≤x
  ·obtain⟨p,rfl⟩:=Int.eq_ofNat_of_zero_le hxz;have hpn:(p:Int)≤(n:Int):=by omega
   have hp8:p<254:=by omega
   have hwp:IntKind.i64.wrap ((p:Int)+1)=(p:Int)+1:=IntWalk.i64_in _ (by omega);have hCp:=QA (show Kd.C (Kd.int .u8) w A p (l'.take p)by
    have h1:=HC.out;rw[HN.out]at h1;have h2:=Kd.C_take h1 (m:=p) qq_26;rw[List.length_take,Nat.min_eq_left qq_26]at h2;exact h2)
   obtain⟨p',hp',_,hcutp,_⟩:=c8_to A n c p p rfl (by omega) hnc;subst hp';obtain⟨A4,n4,c4,d,g,hcut4,hC4⟩:=Qkp A n c (p'+1) ((p':Int)+1) (by omega) (by omega) hnc;have HN4:=QA d;have u:n4<n:=by omega
   clear d
   by_cases hbig:254<n
   all_goals first|rw[if_pos hbig]at hm|rw[if_neg hbig]at hm
   all_goals
    subst hm
    go_wp2_with (first |(go_at_call 68;refine(ix_at 0 (Kd.C_below hC1.out HB.out) hmc).mono ?_;rw[← HX.out];rintro e w2 ⟨rfl,hd⟩;obtain⟨q2,rfl⟩:=hd.out;clear hd))
    obtain⟨W,hW⟩:∃W,W=(wr.drewN q2).drew:=⟨_,rfl⟩
    go_region_law (first
     |(refine Kd.R_append_step (Kd.int .u8) (w0:=w) w.heap.size (by rfl) (.tmp 27) (.tmp 31) 40 5 (.int .u8 0) 1 rfl Tryz.underlying40 Qit rfl (by decide) (by omega) u3 out (((p':Int)+1)%256) [.int .u8 (((p':Int)+1)%256)] (fun _=>True) (fun _=>False) rfl ?ax ?aP (fun _ hk=>hk.elim) (fun _ _=>trivial) ?aO ?aB ?aS ?aL ?_;(case ax=>rfl);(case aP=>rfl);(case aO=>exact Kd.R_drew (Kd.R_drewN HR.out q2));(case aB=>exact Qct (Qcu HB.out q2));(case aS=>exact HB.out.size);(case aL=>omega);intro v1 w1 b hb1 l hat1)
     |(refine Kd.R_append_rows_step (Kd.int .u8) (Rr:=fun x cs=>cs=[.int .u8 x]) (w0:=w) w.heap.size (by rfl) (.tmp 32) (.tmp 35) 40 5 (.int .u8 0) 1 rfl Tryz.underlying40 Qit rfl (by decide) (by omega) v1 (out++[((p':Int)+1)%256]) (l'.take p') A p' c (fun _=>True) (fun _=>False) rfl rfl b ?bR (fun _ _ h=>h) (fun _ hk=>hk.elim) (fun _ _=>trivial) hb1 hb1.size ?bL ?_;(case bR=>exact Kd.C_below hCp.out hb1);(case bL=>simp;omega);intro v2 w2 a hb2 o hat2))
    all_goals
     have j:=QA a;have k:=QA hb2;clear b hb1 l hat1 a hb2 o hat2
     go_wp2_with fail
     go_roundw
     case rel=>exact⟨l'.drop (p'+1),out++[((p':Int)+1)%256]++l'.take p',A4,n4,c4,rfl,g,⟨by rw[List.length_drop];have:=HN4.out;have:=HN.out;omega⟩,by omega,by
       have:=HN.out;have:=HN4.out;simp only[List.length_append,List.length_singleton,List.length_take];omega,⟨by
       rw[HS.out,Qkv HX.out.symm];simp⟩,⟨hC4 _ _ HC.out⟩,j,k⟩
     case measure=>simp[lenV];omega
  ·have hxm:x=-1:=by omega
   subst hxm;have hix:ixOf (l'.take 254) 0<0:=by have:=HX.out;omega
   have HIX:=QA hix;clear hix
   by_cases hbig:254<n
   ·rw [if_pos hbig]at hm;subst hm;have hbi:(254:Int)<(n:Int):=by omega
    obtain⟨p',hp',_,hcutp,_⟩:=c8_to A n c 254 254 rfl (by omega) hnc;subst hp';obtain⟨A4,n4,c4,d,g,hcut4,hC4⟩:=Qkp A n c 254 254 rfl (by omega) hnc;have HN4:=QA d;have u:n4<n:=by omega
    clear d
    go_wp2_with (first |(go_at_call 68;refine(ix_at 0 (Kd.C_below hC1.out HB.out) hmc).mono ?_;rw[← HX.out];rintro e w2 ⟨rfl,hd⟩;obtain⟨q2,rfl⟩:=hd.out;clear hd))
    go_region_law (first
     |(refine Kd.R_append_step (Kd.int .u8) (w0:=w) w.heap.size (by rfl) (.tmp 45) (.tmp 46) 40 5 (.int .u8 0) 1 rfl Tryz.underlying40 Qit rfl (by decide) (by omega) u3 out 255 [.int .u8 255] (fun _=>True) (fun _=>False) rfl ?ax ?aP (fun _ hk=>hk.elim) (fun _ _=>trivial) ?aO ?aB ?aS ?aL ?_;(case ax=>rfl);(case aP=>rfl);(case aO=>exact Kd.R_drew (Kd.R_drewN HR.out q2));(case aB=>exact Qct (Qcu HB.out q2));(case aS=>exact HB.out.size);(case aL=>omega);intro v1 w1 b hb1 l hat1)
     |(refine Kd.R_append_rows_step (Kd.int .u8) (Rr:=fun x cs=>cs=[.int .u8 x]) (w0:=w) w.heap.size (by rfl) (.tmp 47) (.tmp 49) 40 5 (.int .u8 0) 1 rfl Tryz.underlying40 Qit rfl (by decide) (by omega) v1 (out++[255]) (l'.take 254) A 254 c (fun _=>True) (fun _=>False) rfl rfl b ?bR (fun _ _ h=>h) (fun _ hk=>hk.elim) (fun _ _=>trivial) hb1 hb1.size ?bL ?_;(case bR=>exact Kd.C_below hC1.out hb1);(case bL=>simp;omega);intro v2 w2 a hb2 o hat2))
    all_goals
     have j:=QA a;have k:=QA hb2;clear b hb1 l hat1 a hb2 o hat2
     go_wp2_with fail
     go_roundw
     case rel=>exact⟨l'.drop 254,out++[255]++l'.take 254,A4,n4,c4,rfl,g,⟨by rw[List.length_drop];have:=HN4.out;have:=HN.out;omega⟩,by omega,by
       have:=HN.out;have:=HN4.out;simp only[List.length_append,List.length_singleton,List.length_take];omega,⟨by
       rw[HS.out,Qkw HIX.out qq_26];simp⟩,⟨hC4 _ _ HC.out⟩,j,k⟩
     case measure=>simp[lenV];omega
   ·rw[if_neg hbig]at hm;subst hm;have hbi:(m:Int)≤254:=by omega
    go_wp2_with (first
     |(go_at_call 68;refine(ix_at 0 (Kd.C_below hC1.out HB.out) hmc).mono ?_;rw[← HX.out];rintro e w2 ⟨rfl,hd⟩;obtain⟨q2,rfl⟩:=hd.out;clear hd)
     |(at_builtin;refine Kd.R_append (Kd.int .u8) (w0:=w) w.heap.size rfl (.tmp 15) (.tmp 20) 40 5 (.int .u8 0) 1 rfl Tryz.underlying40 Qit rfl (by decide) (by omega) u3 out ((m:Int)+1) [.int .u8 ((m:Int)+1)] (fun _=>True) (fun _=>False) rfl ?ax ?aP (fun _ hk=>hk.elim) ?aF ?aO ?aB ?aS ?aL ?_;(case ax=>rfl);(case aP=>rfl);(case aF=>exact fun _ _=>trivial);(case aO=>exact Kd.R_drewN HR.out q2);(case aB=>exact Qcu HB.out q2);(case aS=>exact HB.out.size);(case aL=>omega);intro v1 w1 b hb1 l hat1)
     |(at_builtin;refine Kd.R_append_rows (Kd.int .u8) (Rr:=fun x cs=>cs=[.int .u8 x]) (w0:=w) w.heap.size rfl (.tmp 21) (.tmp 22) 40 5 (.int .u8 0) 1 rfl Tryz.underlying40 Qit rfl (by decide) (by omega) v1 (out++[(m:Int)+1]) (l'.take 254) A m c (fun _=>True) (fun _=>False) rfl rfl b ?bR (fun _ _ h=>h) (fun _ hk=>hk.elim) (fun _ _=>trivial) hb1 hb1.size ?bL ?_;(case bR=>exact Kd.C_below hC1.out hb1);(case bL=>simp;omega);intro v2 w2 a hb2 o hat2))
    go_ret
    refine⟨v2,rfl,?_,hb2⟩;have hlm:=HN.out;rw[HS.out,Qkx HIX.out (by omega),← hlm];rw[List.take_of_length_le (by omega)]at a;rw[show((m:Int)+1)%256=(m:Int)+1 by omega]
    simpa using a
def Qam.f(l0:List Int):Option (List Int):=if l0.length≤35184372088832 then some (Qks l0)else none
theorem Qam.calls(A0:Option Addr)(c0:Nat)(l0:List Int)(r:List Int)(w:World)(hr0:Kd.C (Kd.int .u8) w A0 l0.length l0)(hc0:l0.length≤c0)(h:Qam.f l0=some r) :
  Calls Tryz.prog 151 #[.slice A0 l0.length c0] w fun e w'=>∃v0_:Value,e=.returned (v0_)∧Kd.R (Kd.int .u8) 5 w' w.heap.size (fun _=>True) v0_ r∧Below w.heap.size w w':=by
 unfold Qam.f at h
 by_cases hl:l0.length≤35184372088832
 ·rw[if_pos hl]at h
  cases h
  exact Qky A0 c0 l0 w hr0 hc0 hl
 ·rw[if_neg hl]at h;cases h
def Qas.f(l0_0:List S158)(a0_1 a1 a2 a3:Int):Option Bool :=
 if l0_0.length≤140737488355328 then
  if mn a3 a1≤mx a2 0 then some false else(Qar.f l0_0 a0_1 a1).bind fun t=>if t<mn a3 a1 then some true else some (hitL (IntKind.u64.wrap (mx a2 0)) (IntKind.u64.wrap (mn a3 a1)) l0_0)
 else none
theorem Qas.calls(c:Option Addr)(d:Nat)(b:List S158)(j:Int)(a1:Int)(a2:Int)(a3:Int)(r:Bool)(w:World)(hr0_0:Kd.C k158 w c b.length b)(hc0_0:b.length≤d)(h:Qas.f b j a1 a2 a3=some r) :
  Calls Tryz.prog 43 #[.agg #[.slice c b.length d,.int .i64 j],.int .i64 a1,.int .i64 a2,.int .i64 a3] w fun e w'=>e=.returned (.bool r)∧Below w.heap.size w w':=by
 have hu:=Tryz.underlying158;have hu2:=Tryz.underlying81;have HR:=QA hr0_0;have HC:=QA hc0_0;have H:=QA h;clear hr0_0 hc0_0 h
 go_enter Tryz.func43,Tryz.ntmps43
 go_upto_region 1 with(fail)
 obtain⟨g,hg⟩:∃g,g=w.heap.size:=⟨_,rfl⟩;obtain⟨fb,hfb⟩:∃fb,fb=w.heap.size+1:=⟨_,rfl⟩;obtain⟨tb,htb⟩:∃tb,tb=w.heap.size+1+1:=⟨_,rfl⟩;obtain⟨W0,hW0⟩:∃W0,W0=(((w.alloc (.cells #[.slice c b.length d,.int .i64 j] 81)).alloc (.cells #[.int .i64 a2] 3)).alloc (.cells #[.int .i64 a3] 3)):=⟨_,rfl⟩;have s1:(w.alloc (.cells #[.slice c b.length d,.int .i64 j] 81)).heap.size=w.heap.size+1:=World.size_alloc _ _;have s2:((w.alloc (.cells #[.slice c b.length d,.int .i64 j] 81)).alloc (.cells #[.int .i64 a2] 3)).heap.size=w.heap.size+1+1:=by rw[World.size_alloc,s1]
 have BD:=QA (show W0.heap[g]? = some (.cells #[.slice c b.length d,.int .i64 j] 81 (0,0))by rw[hW0,hg];exact Qed (Qed (Qeh w _) _) _);have BF:=QA (show W0.heap[fb]? = some (.cells #[.int .i64 a2] 3 (0,0))by rw[hW0,hfb,← s1];exact Qed (Qeh _ _) _);have BT:=QA (show W0.heap[tb]? = some (.cells #[.int .i64 a3] 3 (0,0))by rw[hW0,htb,← s2];exact Qeh _ _);have m:=QA (show Below w.heap.size w W0 by rw[hW0];exact Qcs (Qcs (Qcs (Below.refl _ _) _) _) _);have N1:=QA (show tb≠fb by omega);have N2:=QA (show g≠fb by omega);have N3:=QA (show fb≠tb by omega);have N4:=QA (show g≠tb by omega);have L1:=QA (show w.heap.size≤fb by omega);have L2:=QA (show w.heap.size≤tb by omega);rw[← hW0,← htb,← hfb,← hg];clear hW0 htb hfb s1 s2;have HG:=QA hg;clear hg;have hz0:=Qds BF.out 0;have cF0:W0.drew.cell? ⟨fb,0,none⟩=some (.int .i64 a2):=(Qdr (Qee BF.out) 0).trans rfl;refine Qgf (n:=7) (S:=fun w'=>w'.cell? ⟨tb,0,none⟩=some (.int .i64 a3)) (ds:=[6]) (bm 7 0) qq_4 rfl rfl (((Qdr (Qee BT.out) 0).trans rfl)) (fun a=>?_);refine pz_ (i:=3) (N:=some 12) (bm 7 8) qq_4 ?_;refine take_ (i:=2) (N:=some 11) (v:=?_) (a':=?_) (bm 7 12) rfl rfl qq_4 (fun _ _ _ h=>h) (Or.inl ⟨by rfl,?_⟩) a ?_ ?_;rotate_left
 ·intro w' s0;go_simp;with_reducible rfl
 rotate_left
 ·simp only[Act.put,List.setIfInBounds_toArray,List.set_cons_zero,List.set_cons_succ,Qgq,Qgr];rfl
 refine pz_ (i:=4) (N:=some 13) (bm 7 28) qq_4 ?_;refine one_ (i:=0) (N:=some 9) (bm 7 29) rfl rfl qq_4 (by decide) (fun K hK=>?_);refine Qgp (w1:=?_) (v:=?_) (by rfl) rfl ?_ ?_;rotate_left 2
 ·go_simp
  constructor
  ·rfl
  ·rfl
 refine hK.out _ _ (a) (fun a=>?_);clear hK K;refine nzp_ 9 ?_;refine pz_ (i:=1) (N:=some 10) (bm 7 31) qq_4 ?_;refine one_ (i:=5) (N:=none) (bm 7 63) rfl rfl qq_4 (by decide) (fun K hK=>?_);refine skip_ (w1:=?_) (by rfl) rfl ?_ ?_;rotate_left
 ·go_simp;rfl
 obtain⟨W1,hW1⟩:∃W1,W1=(W0.setCell ⟨fb,0,none⟩ (.int .i64 (if a2<0 then 0 else a2))).drew:=⟨_,rfl⟩;rw[← hW1];have BF1:=QA (show W1.heap[fb]? = some (.cells #[.int .i64 (mx a2 0)] 3 (0,0))by rw[hW1];exact Qee (Qfn BF.out 0 _ rfl));have BT1:=QA (show W1.heap[tb]? = some (.cells #[.int .i64 a3] 3 (0,0))by rw[hW1];exact Qee (Qdp (p:=⟨fb,0,none⟩) BT.out N1.out _));have BD1:=QA (show W1.heap[g]? = some (.cells #[.slice c b.length d,.int .i64 j] 81 (0,0))by rw[hW1];exact Qee (Qdp (p:=⟨fb,0,none⟩) BD.out N2.out _));have o:=QA (show Below w.heap.size w W1 by rw[hW1];exact Qct (Qfk m.out L1.out));clear hW1;have hz1:=Qds BT1.out 0;refine hK.out _ _ (((Qdr BT1.out 0).trans rfl)) (fun a=>?_);clear hK K;refine last_ (i:=6) (N:=none) (bm 7 127) rfl rfl qq_4 (by decide) (fun K hK=>?_);refine skip_ (w1:=?_) (by rfl) rfl ?_ ?_;rotate_left
 ·go_simp;rfl
 obtain⟨W2,hW2⟩:∃W2,W2=W1.setCell ⟨tb,0,none⟩ (.int .i64 (if a1<a3 then a1 else a3)):=⟨_,rfl⟩;rw[← hW2];have BF2:=QA (show W2.heap[fb]? = some (.cells #[.int .i64 (mx a2 0)] 3 (0,0))by rw[hW2];exact Qdp (p:=⟨tb,0,none⟩) BF1.out N3.out _);have BT2:=QA (show W2.heap[tb]? = some (.cells #[.int .i64 (mn a3 a1)] 3 (0,0))by rw[hW2];exact Qfn BT1.out 0 _ rfl);have BD2:=QA (show W2.heap[g]? = some (.cells #[.slice c b.length d,.int .i64 j] 81 (0,0))by rw[hW2];exact Qdp (p:=⟨tb,0,none⟩) BD1.out N4.out _);have k:=QA (show Below w.heap.size w W2 by rw[hW2];exact Qfk o.out L2.out);clear hW2;refine hK.out _ _ ?_;clear hK K;refine Qgj qq_4 ?_;clear cF0 hz0 hz1;obtain⟨F,hF⟩:∃F:Int,F=(if a2<0 then 0 else a2):=⟨_,rfl⟩;obtain⟨T,hT⟩:∃T:Int,T=(if a1<a3 then a1 else a3):=⟨_,rfl⟩;have hF2:mx a2 0=F:=hF.symm;have hT2:mn a3 a1=T:=hT.symm;unfold Qas.f at H;rw[hF2]at BF2 H;rw[hT2]at BT2 H;rw[← hF,← hT];clear hF2 hT2 hF hT BF BT BD BF1 BT1 BD1 m o;have cF:=(Qdr BF2.out 0).trans (show _=some (Value.int .i64 F) from rfl);have cT:=(Qdr BT2.out 0).trans (show _=some (Value.int .i64 T) from rfl);have h:=H.out;clear H
 by_cases hl:b.length≤140737488355328
 ·rw [if_pos hl]at h;have HLL:=QA hl;clear hl
  by_cases h1:T≤F
  ·rw[if_pos h1]at h;obtain rfl:=Option.some.inj h;have c1:decide (T≤F)=true:=decide_eq_true h1;clear h1 h;go_wp2;go_ret
   exact⟨rfl,k.out⟩
  ·rw[if_neg h1]at h;have c1:decide (T≤F)=false:=decide_eq_false h1;clear h1;obtain⟨t,ht,h⟩:=Option.bind_eq_some_iff.mp h;have HL:=QA ht;clear ht
   go_upto_region 4 with(fail)
   clear cF cT
   by_cases h2:t<T
   ·rw[if_pos h2]at h;obtain rfl:=Option.some.inj h;have c2:decide (t<T)=true:=decide_eq_true h2;clear h2 h;refine Qgf (n:=12) (S:=fun w'=>w'.cell? ⟨tb,0,none⟩=some (.int .i64 T)∧w'.cell? ⟨g,0,none⟩=some (.slice c b.length d)∧w'.cell? ⟨g,1,none⟩=some (.int .i64 j)) (ds:=[]) (bm 12 0) qq_4 rfl rfl ⟨((Qdr (Qee BT2.out) 0).trans rfl),((Qdr (Qee BD2.out) 0).trans rfl),((Qdr (Qee BD2.out) 1).trans rfl)⟩ (fun a=>?_);refine pz_ (i:=2) (N:=some 19) (bm 12 4) qq_4 ?_;refine tz_ (i:=0) (N:=some 17) (bm 12 5) qq_4 a ?_;refine tz_ (i:=1) (N:=some 18) (bm 12 7) qq_4 a ?_;refine one_ (i:=3) (N:=some 20) (bm 12 15) rfl rfl qq_4 (by decide) (fun K hK=>?_);refine Qgn Tryz.func83 qq_4 rfl #[.agg #[.slice c b.length d,.int .i64 j],.int .i64 a1] (by rfl) rfl rfl (by simp only[List.map_toArray,List.map_cons,List.map_nil];rfl) ?_;with_reducible refine(Qar.calls c d b j a1 t _ (Kd.C_below HR.out (Qct k.out)) HC.out HL.out).mono ?_
    rintro ee w3 ⟨rfl,hb3⟩;refine⟨_,rfl,?_⟩;have l:=QA (Qcv (Qct k.out) (Qct k.out).size hb3);have BF3:=QA (Qeg (Qee BF2.out) hb3);have BT3:=QA (Qeg (Qee BT2.out) hb3);refine hK.out _ _ ⟨(Qcw hb3 a.1),(Qcw hb3 a.2.1),(Qcw hb3 a.2.2)⟩ (fun a=>?_);clear hK K;refine nzp_ 20 ?_;refine pz_ (i:=4) (N:=some 21) (bm 12 31) qq_4 ?_;refine pz_ (i:=5) (N:=some 22) (bm 12 63) qq_4 ?_;refine Qgh (i:=6) (N:=some 23) (v:=undef) (a':=?_) (bm 12 127) rfl rfl qq_4 (fun _ _ _ h=>h) (Or.inr ⟨by rfl,rfl⟩) ?_ ?_;rotate_left
    ·simp only[Act.put,List.setIfInBounds_toArray,List.set_cons_zero,List.set_cons_succ,Qgq,Qgr];rfl
    refine Qgh (i:=7) (N:=some 24) (v:=undef) (a':=?_) (bm 12 255) rfl rfl qq_4 (fun _ _ _ h=>h) (Or.inr ⟨by rfl,rfl⟩) ?_ ?_;rotate_left
    ·simp only[Act.put,List.setIfInBounds_toArray,List.set_cons_zero,List.set_cons_succ,Qgq,Qgr];rfl
    refine Qgh (i:=8) (N:=some 25) (v:=undef) (a':=?_) (bm 12 511) rfl rfl qq_4 (fun _ _ _ h=>h) (Or.inr ⟨by rfl,rfl⟩) ?_ ?_;rotate_left
    ·simp only[Act.put,List.setIfInBounds_toArray,List.set_cons_zero,List.set_cons_succ,Qgq,Qgr];rfl
    refine Qgh (i:=9) (N:=some 26) (v:=undef) (a':=?_) (bm 12 1023) rfl rfl qq_4 (fun _ _ _ h=>h) (Or.inr ⟨by rfl,rfl⟩) ?_ ?_;rotate_left
    ·simp only[Act.put,List.setIfInBounds_toArray,List.set_cons_zero,List.set_cons_succ,Qgq,Qgr];rfl
    refine pz_ (i:=10) (N:=some 27) (bm 12 2047) qq_4 ?_;refine pz_ (i:=11) (N:=some 8) (bm 12 4095) qq_4 ?_;refine Qgj qq_4 ?_;go_wp2;go_ret
    exact⟨rfl,l.out⟩
   ·rw[if_neg h2]at h;obtain rfl:=Option.some.inj h;have c2:decide (t<T)=false:=decide_eq_false h2;clear h2 h;refine Qgf (n:=12) (S:=fun w'=>w'.cell? ⟨tb,0,none⟩=some (.int .i64 T)∧w'.cell? ⟨g,0,none⟩=some (.slice c b.length d)∧w'.cell? ⟨g,1,none⟩=some (.int .i64 j)) (ds:=[]) (bm 12 0) qq_4 rfl rfl ⟨((Qdr (Qee BT2.out) 0).trans rfl),((Qdr (Qee BD2.out) 0).trans rfl),((Qdr (Qee BD2.out) 1).trans rfl)⟩ (fun a=>?_);refine pz_ (i:=2) (N:=some 19) (bm 12 4) qq_4 ?_;refine tz_ (i:=0) (N:=some 17) (bm 12 5) qq_4 a ?_;refine tz_ (i:=1) (N:=some 18) (bm 12 7) qq_4 a ?_;refine one_ (i:=3) (N:=some 20) (bm 12 15) rfl rfl qq_4 (by decide) (fun K hK=>?_);refine Qgn Tryz.func83 qq_4 rfl #[.agg #[.slice c b.length d,.int .i64 j],.int .i64 a1] (by rfl) rfl rfl (by simp only[List.map_toArray,List.map_cons,List.map_nil];rfl) ?_;with_reducible refine(Qar.calls c d b j a1 t _ (Kd.C_below HR.out (Qct k.out)) HC.out HL.out).mono ?_
    rintro ee w3 ⟨rfl,hb3⟩;refine⟨_,rfl,?_⟩;have l:=QA (Qcv (Qct k.out) (Qct k.out).size hb3);have BF3:=QA (Qeg (Qee BF2.out) hb3);have BT3:=QA (Qeg (Qee BT2.out) hb3);refine hK.out _ _ ⟨(Qcw hb3 a.1),(Qcw hb3 a.2.1),(Qcw hb3 a.2.2)⟩ (fun a=>?_);clear hK K;refine nzp_ 20 ?_;refine pz_ (i:=4) (N:=some 21) (bm 12 31) qq_4 ?_;refine pz_ (i:=5) (N:=some 22) (bm 12 63) qq_4 ?_;refine pz_ (i:=6) (N:=some 23) (bm 12 127) qq_4 ?_;refine pz_ (i:=8) (N:=some 25) (bm 12 383) qq_4 ?_;refine tz_ (i:=7) (N:=some 24) (bm 12 511) qq_4 a ?_;refine one_ (i:=9) (N:=some 26) (bm 12 1023) rfl rfl qq_4 (by decide) (fun K hK=>?_);refine Qgn Tryz.func84 qq_4 rfl #[.slice c b.length d,.func (.func 85) #[] #[.pointer (some ⟨fb,0,none⟩),.pointer (some ⟨tb,0,none⟩)]] (by rfl) rfl rfl (by simp only[List.map_toArray,List.map_cons,List.map_nil];rfl) ?_;with_reducible refine(hasE_of c d b F T fb tb _ (Kd.C_below HR.out l.out) HLL.out ((Qdr BF3.out 0).trans rfl) ((Qdr BT3.out 0).trans rfl)).mono ?_
    rintro ee w4 ⟨rfl,hb4⟩;refine⟨_,rfl,?_⟩;refine hK.out _ _ ⟨(Qcw hb4 a.1),(Qcw hb4 a.2.1),(Qcw hb4 a.2.2)⟩ (fun a=>?_);clear hK K;refine nzp_ 26 ?_;refine pz_ (i:=10) (N:=some 27) (bm 12 2047) qq_4 ?_;refine pz_ (i:=11) (N:=some 8) (bm 12 4095) qq_4 ?_;refine Qgj qq_4 ?_;go_wp2;go_ret
    exact⟨rfl,Qcv l.out l.out.size hb4⟩
 ·rw[if_neg hl]at h
  cases h
end Go.Proofs.YteaocbonofboeaaGreat.C
end
section
namespace Go.Proofs.YteaocbonofboeaaGreat.C
open Go.RowKit Go.Proofs.YteaocbonofboeaaGreatW.PrintWords Go.Proofs.YteaocbonofboeaaGreatW.PrintLast Go.Proofs.YteaocbonofboeaaGreatW.PrintMore
theorem Qkz:((List.range 256).all fun a=>Go.bits .or .u8 (a:Int) 128 == (a:Int)%128+128)=true:=by kernel_rfl
theorem or128(a:Int)(h0:0≤a)(h1:a<256):Go.bits .or .u8 a 128=a%128+128:=by
 have h:=List.all_eq_true.1 Qkz a.toNat (List.mem_range.2 (by omega));have e:((a.toNat:Nat):Int)=a:=by omega
 rw[e]at h;exact eq_of_beq h
def vput:Nat→Int→List Int
 | 0,x=>[x]
 | n+1,x=>if x<128 then [x]else(x%128+128) :: vput n (x/128)
theorem Qla:∀(n:Nat) (x:Int),(vput n x).length≤n+1
 | 0,_=>by simp[vput]
 | n+1,x=>by
  unfold vput;have:=Qla n (x/128);split<;>simp<;>omega
theorem Qlb(b g:Nat)(x:Int)(xs:List Int)(w:World)(j:0≤x)(l:x<18446744073709551616)(hbg:b≤g)(hbw:b≤w.heap.size)(hI:IsBuf w b g xs)(hl:xs.length+10≤140737488355328) :
  Calls Tryz.prog 102 #[.pointer (some ⟨g,0,none⟩),.int .u64 x] w fun e w'=>(∃v,e=.returned v)∧IsBuf w' b g (xs++vput 9 x)∧Bw b g w w':=by
 have HI:=QA hI;clear hI
 go_enter Tryz.func102,Tryz.ntmps102
 go_wp2
 go_loopw [1] (fun v1 wr=>∃(k:Nat) (ys:List Int) (xv:Int),k≤9∧ys.length=k∧v1=.int .u64 xv∧0≤xv∧xv<2^(64-7*k)∧Aside0 (vput 9 x=ys++vput (9-k) xv)∧Aside0 (IsBuf wr b g (xs++ys))∧Aside0 (Bw b g w wr))
  (fun v1 _=>(intOf v1).toNat)
 case atStart=>exact⟨0,[],x,by omega,rfl,rfl,j,by simpa using l,⟨rfl⟩,⟨by simpa using HI.out⟩,⟨Bw.refl _ _ _⟩⟩
 case round =>
  obtain⟨k,ys,xv,hk,hys,rfl,n,a,HL,HB,HW⟩:=hrel;have o:xv<18446744073709551616:=by
   have:(2:Int)^(64-7*k)≤2^64:=by exact_mod_cast Nat.pow_le_pow_right (by decide) (by omega)
   omega
  by_cases hlt:128≤xv
  ·have hk9:k<9:=by
    by_cases e:k<9
    ·exact e
    ·obtain rfl:k=9:=by omega
     simp at a;omega
   have hor:=or128 (xv%256) (by omega) (by omega);have hm:(xv%256)%128=xv%128:=by omega
   rw[hm]at hor;have d:xv/128<2^(64-7*(k+1)):=by
    have e:(2:Int)^(64-7*k)=2^(64-7*(k+1))*128:=by
     rw[show 64-7*k=(64-7*(k+1))+7 by omega,Int.pow_add];rfl
    rw[e]at a;exact Int.ediv_lt_of_lt_mul (by decide) a
   have HX5:=QA d;clear a d
   go_wp2_with (go_at_call 101;(try rw[hor]);refine(Qjy b g (xv%128+128) (xs++ys) _ (by omega) (by omega) hbg (Nat.le_trans hbw HW.out.size) HB.out qq_30).mono ?_;rintro e w1 ⟨rfl,hd,hb1⟩;have HI1:=QA hd;have c:=QA (HW.out.trans hb1);clear hd hb1)
   go_roundw
   case rel=>exact⟨k+1,ys++[xv%128+128],xv/128,by omega,by simp[hys],by go_num,by omega,HX5.out,⟨by
    rw[HL.out,show 9-k=(9-(k+1))+1 by omega,vput,if_neg (by omega)];simp⟩,⟨by rw[← List.append_assoc];exact HI1.out⟩,⟨c.out⟩⟩
   case measure=>simp[intOf];omega
  ·have hxm:xv%256=xv:=by omega
   go_wp2_with (go_at_call 101;(try rw[hxm]);refine(Qjy b g xv (xs++ys) _ (by omega) (by omega) hbg (Nat.le_trans hbw HW.out.size) HB.out qq_30).mono ?_;rintro e w1 ⟨rfl,hd,hb1⟩;have HI1:=QA hd;have c:=QA (HW.out.trans hb1);clear hd hb1)
   go_end0
   refine⟨⟨_,rfl⟩,?_,c.out⟩;have e:vput (9-k) xv=[xv]:=by
    cases h:9-k with
    | zero=>rfl
    | succ m=>rw[vput,if_pos (by omega)]
   rw[HL.out,e,← List.append_assoc];exact HI1.out
theorem Qlc(W:World)(s:ByteArray)(hs:s.size≤9223372036854775807):Kd.C (Kd.int .u8) (Lib.bytesWorld W 5 s) (some ⟨W.heap.size,0,none⟩) s.size (bytesOf s) :=
 Kd.C_of_reads (d:=(0:Int)) (Qdh W 5 s hs)
theorem Qld(b g:Nat)(s:ByteArray)(xs:List Int)(w:World)(hs:s.size≤70368744177664)(hbg:b≤g)(hbw:b≤w.heap.size)(hI:IsBuf w b g xs)(hl:xs.length+s.size+10≤140737488355328) :
  Calls Tryz.prog 152 #[.pointer (some ⟨g,0,none⟩),.string s] w fun e w'=>(∃v,e=.returned v)∧IsBuf w' b g (xs++(vput 9 s.size++bytesOf s))∧Bw b g w w':=by
 have hvl:=Qla 9 s.size;have kb:=fun W=>Qdg (P:=Tryz.prog) 9 40 5 Tryz.underlying9 Tryz.underlying40 Tryz.underlying5 s W
 go_enter Tryz.func152,Tryz.ntmps152
 go_wp2_with (first |(go_at_call 102;refine(Qlb b g s.size xs w (by omega) (by omega) hbg hbw hI (by omega)).mono ?_;rintro e w1 ⟨⟨_,rfl⟩,hd,hb1⟩) |(go_at_call 149;refine(Qke b g _ _ s.size (bytesOf s) (xs++vput 9 s.size) (Lib.bytesWorld w1 5 s) (Qde s).symm (Qlc w1 s (by omega)) hbg (by rw[Lib.bytesWorld_size];have:=hb1.size;omega) (hd.kept (Qdi (Below.refl _ _) (Nat.le_refl _) _ _)) qq_30).mono ?_;rintro e w2 ⟨rfl,hd2,hb2⟩))
 go_end0
 refine⟨⟨_,rfl⟩,by rw[← List.append_assoc];exact hd2,hb1.trans ((Bw.below (Qdi (Below.refl _ _) (Nat.le_refl _) _ _) (by have:=hb1.size;omega)).trans hb2)⟩
theorem rd_mem{l:List Int}{i:Int}(h0:0≤i)(h1:i<l.length):rd l i∈l:=by
 have h:i.toNat<l.length:=by omega
 unfold rd;rw[List.getD_eq_getElem?_getD,List.getElem?_eq_getElem h];exact List.getElem_mem h
theorem Qqu{l:List Int}{k:Nat}(h:k<l.length):l.take (k+1)=l.take k++[rd l (k:Int)]:=by
 unfold rd;rw[List.take_add_one,List.getElem?_eq_getElem h,List.getD_eq_getElem?_getD];simp[List.getElem?_eq_getElem h]
theorem Qlf(l:List Int):(l.flatMap (fun x=>leb x 8)).length=8*l.length:=by
 induction l with
 | nil=>rfl
 | cons a l ih=>simp[Qjs,ih];omega
theorem Qlg(b g:Nat)(A0:Option Addr)(c0:Nat)(l:List Int)(xs:List Int)(w:World)(hr0:∀W',Bw b g w W'→Kd.C (Kd.int .u64) W' A0 l.length l)(hwf:∀x∈l,0≤x∧x<18446744073709551616)(hbg:b≤g)(hbw:b≤w.heap.size)(hI:IsBuf w b g xs)(hl:xs.length+8*l.length≤140737488355328) :
  Calls Tryz.prog 112 #[.pointer (some ⟨g,0,none⟩),.slice A0 l.length c0] w fun e w'=>(∃v,e=.returned v)∧IsBuf w' b g (xs++l.flatMap (fun x=>leb x 8))∧Bw b g w w':=by
 have HI:=QA hI;clear hI
 go_enter Tryz.func112,Tryz.ntmps112
 go_wp2
 go_loopw [8] (fun i wr=>∃(k:Nat) (iv:Int),k≤l.length∧i=.int .i64 iv∧Aside0 (iv=(k:Int))∧Aside0 (IsBuf wr b g (xs++(l.take k).flatMap (fun x=>leb x 8)))∧Aside0 (Bw b g w wr))
  (fun i _=>l.length-(intOf i).toNat)
 case atStart=>exact⟨0,0,Nat.zero_le _,rfl,⟨rfl⟩,⟨by simpa using HI.out⟩,⟨Bw.refl _ _ _⟩⟩
 case round =>
  obtain⟨k,iv,hk,rfl,HK,HB,HW⟩:=hrel
  by_cases hlt:k<l.length
  ·have hge:0≤iv:=by have:=HK.out;omega
   have hl2:iv<(l.length:Int):=by have:=HK.out;omega
   obtain⟨ad,rfl,a⟩:=Kd.at_int (hr0 wr HW.out) iv hge hl2;obtain⟨x,hx⟩:∃x,x=rd l iv:=⟨_,rfl⟩;rw[← hx]at a;have hxr:0≤x∧x<18446744073709551616:=by rw[hx];exact hwf _ (rd_mem hge hl2)
   have HX:=QA hx;clear hx;have hlen:=QA (show(xs++(l.take k).flatMap (fun x=>leb x 8)).length+8≤140737488355328 by rw[List.length_append,Qlf,List.length_take];omega)
   go_wp2_with (go_at_call 150;refine(Qkb b g x (xs++(l.take k).flatMap (fun x=>leb x 8)) _ hxr.1 hxr.2 hbg (Nat.le_trans hbw HW.out.size) HB.out hlen.out).mono ?_;rintro e w1 ⟨rfl,hd,hb1⟩;have HI1:=QA hd;have c:=QA (HW.out.trans hb1);clear hd hb1)
   go_roundw
   case rel=>exact⟨k+1,iv+1,by omega,by go_num,⟨by have:=HK.out;omega⟩,⟨by
    have e1:iv=(k:Int):=HK.out;rw[Qqu hlt,List.flatMap_append,← List.append_assoc,← e1,← HX.out]
    simpa using HI1.out⟩,⟨c.out⟩⟩
   case measure=>simp[intOf];omega
  ·obtain rfl:k=l.length:=by omega
   obtain rfl:iv=(l.length:Int):=HK.out;go_wp2;go_end0
   refine⟨⟨_,rfl⟩,?_,HW.out⟩
   simpa using HB.out
def ent(x:S129):List Int:=leb x.f0 8++leb x.f1 4
theorem Qlh{l:List S129}{k:Nat}(h:k<l.length):l.take (k+1)=l.take k++[Qjg l (k:Int)]:=by
 unfold Qjg;rw[List.take_add_one,List.getElem?_eq_getElem h,List.getD_eq_getElem?_getD];simp[List.getElem?_eq_getElem h]
theorem rdT_mem{l:List S129}{i:Int}(h0:0≤i)(h1:i<l.length):Qjg l i∈l:=by
 have h:i.toNat<l.length:=by omega
 unfold Qjg;rw[List.getD_eq_getElem?_getD,List.getElem?_eq_getElem h];exact List.getElem_mem h
theorem Qli(l:List S129):(l.flatMap ent).length=12*l.length:=by
 induction l with
 | nil=>rfl
 | cons a l ih=>simp[ent,Qjs,ih];omega
theorem Qlj(b g:Nat)(A0:Option Addr)(c0:Nat)(l:List S129)(xs:List Int)(w:World)(hr0:∀W',Bw b g w W'→Kd.C k129 W' A0 l.length l)(hwf:∀x∈l,(0≤x.f0∧x.f0<18446744073709551616)∧0≤x.f1∧x.f1<4294967296)(hbg:b≤g)(hbw:b≤w.heap.size)(hI:IsBuf w b g xs)(hl:xs.length+12*l.length≤140737488355328) :
  Calls Tryz.prog 111 #[.pointer (some ⟨g,0,none⟩),.slice A0 l.length c0] w fun e w'=>(∃v,e=.returned v)∧IsBuf w' b g (xs++l.flatMap ent)∧Bw b g w w':=by
 have hu:=Tryz.underlying129;have HI:=QA hI;clear hI
 go_enter Tryz.func111,Tryz.ntmps111
 go_wp2
 go_loopw [8] (fun i wr=>∃(k:Nat) (iv:Int),k≤l.length∧i=.int .i64 iv∧Aside0 (iv=(k:Int))∧Aside0 (IsBuf wr b g (xs++(l.take k).flatMap ent))∧Aside0 (Bw b g w wr))
  (fun i _=>l.length-(intOf i).toNat)
 case atStart=>exact⟨0,0,Nat.zero_le _,rfl,⟨rfl⟩,⟨by simpa using HI.out⟩,⟨Bw.refl _ _ _⟩⟩
 case round =>
  obtain⟨k,iv,hk,rfl,HK,HB,HW⟩:=hrel
  by_cases hlt:k<l.length
  ·have hge:0≤iv:=by have:=HK.out;omega
   have hl2:iv<(l.length:Int):=by have:=HK.out;omega
   obtain⟨ad,rfl,a,c⟩:=Qjh (hr0 wr HW.out) iv hge hl2;obtain⟨x,hx⟩:∃x,x=Qjg l iv:=⟨_,rfl⟩;rw[← hx]at a c;have hxr:=hwf x (by rw[hx];exact rdT_mem hge hl2);have HX:=QA hx;clear hx;have hlen:=QA (show(xs++(l.take k).flatMap ent).length+12≤140737488355328 by rw[List.length_append,Qli,List.length_take];omega)
   go_upto_region 3 with fail
   obtain⟨B,hBe⟩:∃B,B=wr.heap.size:=⟨_,rfl⟩;obtain⟨W,hW⟩:∃W,W=wr.alloc (.cells #[.int .u64 x.f0,.int .u32 x.f1] 129):=⟨_,rfl⟩;have hBlk:W.heap[B]? = some (.cells #[.int .u64 x.f0,.int .u32 x.f1] 129 (0,0)):=by rw[hW,hBe];exact Qeh wr _
   have hIB:IsBuf W b g (xs++(l.take k).flatMap ent):=by rw[hW];exact HB.out.kept (Qcs (Below.refl _ _) _)
   have hBW:Bw b g w W:=by rw[hW];exact HW.out.trans (Bw.below (Qcs (Below.refl _ _) _) (Nat.le_trans hbw HW.out.size))
   have hgB:B≠g:=by have:=HB.out.lt;omega
   rw[← hW,← hBe];clear hW hBe a c;have d0:Below W.heap.size W W.drew:=Qct (Below.refl _ _);have hBlk1:=Qeg hBlk d0;have hIB1:=hIB.kept d0;have hBW1:Bw b g w W.drew:=hBW.trans (Bw.below d0 (Nat.le_trans hbw hBW.size));have c0:W.drew.cell? ⟨B,0,none⟩=some (.int .u64 x.f0):=(Qdr hBlk1 0).trans rfl;have c1:W.drew.cell? ⟨B,1,none⟩=some (.int .u32 x.f1):=(Qdr hBlk1 1).trans rfl;have hs1:b≤W.drew.heap.size:=Nat.le_trans hbw hBW1.size
   go_region_held3 (fun w'=>w'.cell? ⟨B,0,none⟩=some (.int .u64 x.f0)∧w'.cell? ⟨B,1,none⟩=some (.int .u32 x.f1)) (first|exact⟨c0,c1⟩|exact⟨c2,c3⟩|exact⟨c4,c5⟩) (first |(go_at_call 150;refine(Qkb b g x.f0 (xs++(l.take k).flatMap ent) W.drew hxr.1.1 hxr.1.2 hbg hs1 hIB1 (by have:=hlen.out;omega)).mono ?_;rintro e w2 ⟨rfl,hI2,hb2⟩;have hBlk2:=hb2.2 _ _ _ hBlk1 (by decide) hgB;have c2:w2.cell? ⟨B,0,none⟩=some (.int .u64 x.f0):=(Qdr hBlk2 0).trans rfl;have c3:w2.cell? ⟨B,1,none⟩=some (.int .u32 x.f1):=(Qdr hBlk2 1).trans rfl) |(go_at_call 110;refine(Qka b g x.f1 (xs++(l.take k).flatMap ent++leb x.f0 8) w2 hxr.2.1 hxr.2.2 hbg (Nat.le_trans hs1 hb2.size) hI2 (by have:=hlen.out;simp[Qjs]at this ⊢;omega)).mono ?_;rintro e w3 ⟨rfl,hI3,hb3⟩;have hBlk3:=hb3.2 _ _ _ hBlk2 (by decide) hgB;have c4:w3.cell? ⟨B,0,none⟩=some (.int .u64 x.f0):=(Qdr hBlk3 0).trans rfl;have c5:w3.cell? ⟨B,1,none⟩=some (.int .u32 x.f1):=(Qdr hBlk3 1).trans rfl))
   have HI3:=QA hI3;have d:=QA (hBW1.trans (hb2.trans hb3));clear hI3 hI2 hb2 hb3 c0 c1 c2 c3 c4 c5 hBlk hBlk1 hBlk2 hBlk3 hIB hIB1 hBW hBW1;go_wp2
   go_roundw
   case rel=>exact⟨k+1,iv+1,by omega,by go_num,⟨by have:=HK.out;omega⟩,⟨by
    have e1:iv=(k:Int):=HK.out;rw[Qlh hlt,List.flatMap_append,← List.append_assoc,← e1,← HX.out]
    simpa [ent]using HI3.out⟩,⟨d.out⟩⟩
   case measure=>simp[intOf];omega
  ·obtain rfl:k=l.length:=by omega
   obtain rfl:iv=(l.length:Int):=HK.out;go_wp2;go_end0
   refine⟨⟨_,rfl⟩,?_,HW.out⟩
   simpa using HB.out
end Go.Proofs.YteaocbonofboeaaGreat.C
end
