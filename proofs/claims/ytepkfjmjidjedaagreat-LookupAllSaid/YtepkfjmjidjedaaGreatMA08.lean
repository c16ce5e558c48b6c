/- Merged texts. -/
import Derived.Test.YtepkfjmjidjedaaGreatMA02
import Derived.Lib.IndexLaws
import Derived.Deep.RegionLaw
import Derived.Test.YtepkfjmjidjedaaGreatMA06
import Derived.OpenShut
import Derived.Deep.RegionHeld3
import Derived.Deep.QuietTactic
import Derived.BigQuiet
import Derived.Test.YtepkfjmjidjedaaGreatMA04
set_option linter.unusedVariables false
set_option linter.unusedSimpArgs false
set_option maxHeartbeats 8000000
set_option maxRecDepth 100000
section
namespace Go.Proofs.YtepkfjmjidjedaaGreat.C
open Go.RowKit Go.Proofs.YtepkfjmjidjedaaGreatW.PrintWords Go.Proofs.YtepkfjmjidjedaaGreatW.PrintLast Go.Proofs.YtepkfjmjidjedaaGreatW.PrintMore
attribute [local go_sem] Qho Qhp Qhq Qhr
theorem Qjm:∃i,Tryz.prog.info? 5=some i∧i.size=1∧i.zero=some (.int .u8 0)∧i.bytes=1:=by
 have h:=Qid
 cases hh:Tryz.prog.info? 5 with
 | none=>rw[hh]at h;cases h
 | some i =>
  rw[hh]at h;simp only[Option.map_some,Option.some.injEq,Prod.mk.injEq]at h;exact⟨i,rfl,h.2.1,h.1,h.2.2⟩
theorem Qjn(A:Option Addr)(n c m:Nat)(j:Int)(hj:j=(m:Int))(hm:m≤n)(hc:n≤c) :
  ∃(A':Option Addr) (n' c':Nat),n'=n-m∧n'≤c'∧(∀W:World,(Instr.slice 47 (.slice A n c) (some (.int .i64 j)) none none).run Tryz.prog W=.ok (.slice A' n' c') W) ∧
   ∀(W:World) (xs:List Int),Kd.C (Kd.int .u8) W A n xs→Kd.C (Kd.int .u8) W A' n' (xs.drop m):=by
 subst hj;obtain⟨i,hi,hsz,_⟩:=Qjm;refine⟨if c=m then A else A.map (·.add (m*1)),n-m,c-m,rfl,by omega,fun W=>?_,fun W xs hq=>?_⟩
 ·have h:=Qef (P:=Tryz.prog) 47 5 .i64 Tryz.underlying47 hi 1 hsz A n c (m:Int) (by omega) (by omega) W;rw[Int.toNat_natCast]at h;exact h
 ·have hl:=hq.1;subst hl;have h:=Kd.C_drop hq hm hc;rw[List.length_drop]at h;exact h
theorem c8_to(A:Option Addr)(n c m:Nat)(j:Int)(hj:j=(m:Int))(hm:m≤n)(hc:n≤c) :
  ∃(n':Nat),n'=m∧n'≤c∧(∀W:World,(Instr.slice 47 (.slice A n c) none (some (.int .i64 j)) none).run Tryz.prog W=.ok (.slice A n' c) W) ∧
   ∀(W:World) (xs:List Int),Kd.C (Kd.int .u8) W A n xs→Kd.C (Kd.int .u8) W A n' (xs.take m):=by
 subst hj;obtain⟨i,hi,hsz,_⟩:=Qjm;refine⟨m,rfl,by omega,fun W=>?_,fun W xs hq=>?_⟩
 ·have h:=Qee (P:=Tryz.prog) 47 5 .i64 Tryz.underlying47 hi A n c (m:Int) (by omega) (by omega) hc W;rw[Int.toNat_natCast]at h;exact h
 ·have hl:=hq.1;subst hl;have h:=Kd.C_take hq hm;rw[List.length_take,Nat.min_eq_left hm]at h;exact h
theorem ix_at{W:World}{A:Option Addr}{n c:Nat}{l:List Int}(v:Int)(hC:Kd.C (Kd.int .u8) W A n l)(hc:n≤c) :
  Calls Tryz.prog 122 #[.slice A n c,.int .u8 v] W fun e w'=>e=.returned (.int .i64 (ixOf l v))∧Drawn0 W w':=by
 have hl:=hC.1;subst hl;exact Qae.calls A c l v _ W hC hc rfl
theorem Qjo(l:List Int)(c:Int):-1≤ixOf l c∧ixOf l c<l.length:=by
 unfold ixOf;refine⟨Lib.indexByte_ge _ _,?_⟩
 rcases Int.lt_or_le (Lib.indexByte (Lib.bytesOf l) c.toNat.toUInt8) 0 with h|h
 ·omega
 ·obtain⟨o,ho⟩:=Int.eq_ofNat_of_zero_le h;have h1:=(Lib.indexByte_some (o:=o) ho).1;have h2:=(List.getElem?_eq_some_iff.1 h1).1;have h3:(Lib.bytesOf l).length=l.length:=by simp[Lib.bytesOf]
  omega
theorem R8.cap(W:World)(cs:Array Value)(cap:Nat)(hsz:cs.size=cap*1)(hm:cap≤maxLen):R8 (W.alloc (.cells cs 5)) W.heap.size (.slice (some ⟨W.heap.size,0,none⟩) 0 cap) [] :=
 Kd.R_of_own ⟨by simp[encs],.inr ⟨W.heap.size,cap,cs,rfl,Nat.le_refl _,heap_alloc_new W _,Nat.zero_le _,hm,hsz,by simp[encs]⟩⟩ (fun _ _=>trivial)
def Qjp:Nat→List Int→List Int
 | 0,_=>[]
 | k+1,b =>
  if 0≤ixOf (b.take 254) 0 then((ixOf (b.take 254) 0+1)%256) :: (b.take (ixOf (b.take 254) 0).toNat++Qjp k (b.drop ((ixOf (b.take 254) 0).toNat+1)))
  else if 254<b.length then 255 :: (b.take 254++Qjp k (b.drop 254))
  else(((b.length:Int)+1)%256) :: b
def Qjq(b:List Int):List Int:=Qjp (b.length+1) b
theorem Qjr:∀(k:Nat) (b:List Int),b.length<k→∀j,Qjp (k+j) b=Qjp k b
 | 0,b,h,_=>by omega
 | k+1,b,h,j=>by
  rw[show k+1+j=(k+j)+1 by omega];unfold Qjp;split
  ·rename_i h0;have h1:=(Qjo (b.take 254) 0).2;rw[List.length_take]at h1;rw[Qjr k _ qq_31 j]
  ·split
   ·rw[Qjr k _ qq_31 j]
   ·rfl
theorem Qjs(k:Nat)(b:List Int)(h:b.length<k):Qjp k b=Qjq b:=by
 have e:=Qjr (b.length+1) b (by omega) (k-(b.length+1));rw[show b.length+1+(k-(b.length+1))=k by omega]at e;exact e
theorem Qjt{b:List Int}{p:Nat}(h:ixOf (b.take 254) 0=(p:Int)):Qjq b=(((p:Int)+1)%256) :: (b.take p++Qjq (b.drop (p+1))):=by
 have h1:=(Qjo (b.take 254) 0).2;rw[List.length_take]at h1;have hp:p<b.length:=by omega
 rw[Qjq,Qjp,if_pos (by omega),h,Int.toNat_natCast,Qjs _ _ qq_31]
theorem Qju{b:List Int}(h:ixOf (b.take 254) 0<0)(hl:254<b.length):Qjq b=255 :: (b.take 254++Qjq (b.drop 254)):=by
 rw[Qjq,Qjp,if_neg (by omega),if_pos hl,Qjs _ _ qq_31]
theorem Qjv{b:List Int}(h:ixOf (b.take 254) 0<0)(hl:¬254<b.length):Qjq b=(((b.length:Int)+1)%256) :: b:=by
 rw[Qjq,Qjp,if_neg (by omega),if_neg hl]
def most(n:Nat):Nat:=if n=0 then 1 else n+1+(n-1)/254
theorem most_is(n:Nat)(h:n≤140737488355328):Qal.f (n:Int)=some (most n:Int):=by
 unfold Qal.f most
 by_cases h0:n=0
 ·subst h0;rfl
 ·rw[if_neg (by omega),if_neg h0];have e1:wrap64 ((n:Int)-1)=(n:Int)-1:=by unfold wrap64;omega
  have e2:wrap64 ((n:Int)+1)=(n:Int)+1:=by unfold wrap64;omega
  rw[e1,e2];have e3:Int.tdiv ((n:Int)-1) 254=(((n-1)/254:Nat):Int):=by
   rw[show(n:Int)-1=((n-1:Nat):Int)by omega];rfl
  rw[e3];have e4:wrap64 (((n-1)/254:Nat):Int)=(((n-1)/254:Nat):Int):=by unfold wrap64;omega
  rw[e4];have e5:wrap64 ((n:Int)+1+(((n-1)/254:Nat):Int))=(n:Int)+1+(((n-1)/254:Nat):Int):=by unfold wrap64;omega
  rw[e5];simp
theorem Qjw(A0:Option Addr)(c0:Nat)(l0:List Int)(w:World)(hr0:Kd.C (Kd.int .u8) w A0 l0.length l0)(hc0:l0.length≤c0)(hl:l0.length≤35184372088832) :
  Calls Tryz.prog 197 #[.slice A0 l0.length c0] w fun e w'=>∃r:Value,e=.returned (r)∧R8 w' w.heap.size r (Qjq l0)∧Below w.heap.size w w':=by
 obtain⟨i8,hi8,hs8,hz8,hb8⟩:=Qjm;have hmost:most l0.length≤140737488355328:=by unfold most;split<;>omega
 have hrun:=fun W=>run_make (P:=Tryz.prog) W 47 5 i8 (.int .u8 0) Tryz.underlying47 hi8 hz8 .i64 .i64 0 (most l0.length:Int) (by omega) (by omega) (by rw[hb8];omega) (by omega)
 simp only[hs8]at hrun;have v:=QA hr0;clear hr0
 go_enter Tryz.func197,Tryz.ntmps197
 go_wp2_with (first |(go_at_call 246;refine(Qal.calls _ _ _ (most_is l0.length (by omega))).mono ?_;rintro e w' ⟨rfl,hd⟩;obtain⟨q,rfl⟩:=hd.out;clear hd))
 obtain⟨W0,hW0⟩:∃W0,W0=(w.drewN q).alloc (.cells (madeCells #[.int .u8 0] (most l0.length)) 5):=⟨_,rfl⟩;have s:=QA (show R8 W0 w.heap.size (.slice (some ⟨w.heap.size,0,none⟩) 0 (most l0.length)) []by rw[hW0];exact R8.cap (w.drewN q) _ _ (by simp[madeCells]) (by unfold maxLen;omega));have t:=QA (show Below w.heap.size w W0 by rw[hW0];exact Qcl (Qck (Below.refl _ _) q) (Nat.le_refl _) (Qci (Below.refl _ _) _));rw[← hW0];clear hW0 hrun
 go_loopw [0,3,4,24,41] (fun v0 v3 v4 y z wr=>∃(l' out:List Int) (A:Option Addr) (n c:Nat),v0=.slice A n c∧n≤c∧Aside0 (n=l'.length)∧n≤l0.length∧out.length+2*n≤2*l0.length∧Aside0 (Qjq l0=out++Qjq l')∧Aside0 (Kd.C (Kd.int .u8) w A n l')∧Aside0 (R8 wr w.heap.size v3 out)∧Aside0 (Below w.heap.size w wr))
  (fun v0 _ _ _ _ _=>lenV v0)
 case atStart=>exact⟨l0,[],A0,l0.length,c0,rfl,hc0,⟨rfl⟩,Nat.le_refl _,by simp,⟨rfl⟩,v,s,t⟩
 case round =>
  obtain⟨l',out,A,n,c,rfl,hnc,HN,B,hout,HS,HC,HR,HB⟩:=hrel;clear s t;obtain⟨x,hx⟩:∃x,x=ixOf (l'.take 254) 0:=⟨_,rfl⟩;have hxr:=Qjo (l'.take 254) 0;rw[← hx]at hxr;have hlt:=HN.out;have D:x<(n:Int)∧x<254:=by have:=hxr.2;rw[List.length_take]at this;omega
  have E:=hxr.1;have HX:=QA hx;clear hxr hlt hx;obtain⟨m,hm,hC1,hmc⟩:∃m,(m=if 254<n then 254 else n)∧Aside0 (Kd.C (Kd.int .u8) w A m (l'.take 254))∧m≤c:=by
   by_cases h:254<n
   ·refine⟨254,by rw[if_pos h],⟨?_⟩,by omega⟩;have h1:=HC.out;rw[HN.out]at h1;have h2:=Kd.C_take h1 (m:=254) qq_22;rw[List.length_take,Nat.min_eq_left qq_22]at h2;exact h2
   ·refine⟨n,by rw[if_neg h],⟨?_⟩,hnc⟩;rw[List.take_of_length_le qq_22];exact HC.out
  have HM:=QA hm
  by_cases hxz:0≤x
  ·obtain⟨p,rfl⟩:=Int.eq_ofNat_of_zero_le hxz;have hpn:(p:Int)≤(n:Int):=by omega
   have hp8:p<254:=by omega
   have hwp:IntKind.i64.wrap ((p:Int)+1)=(p:Int)+1:=IntWalk.i64_in _ (by omega);have hCp:=QA (show Kd.C (Kd.int .u8) w A p (l'.take p)by
    have h1:=HC.out;rw[HN.out]at h1;have h2:=Kd.C_take h1 (m:=p) qq_22;rw[List.length_take,Nat.min_eq_left qq_22]at h2;exact h2)
   obtain⟨p',hp',_,hcutp,_⟩:=c8_to A n c p p rfl (by omega) hnc;subst hp';obtain⟨A4,n4,c4,d,g,hcut4,hC4⟩:=Qjn A n c (p'+1) ((p':Int)+1) (by omega) (by omega) hnc;have HN4:=QA d;have u:n4<n:=by omega
   clear d
   by_cases hbig:254<n
   all_goals first|rw[if_pos hbig]at hm|rw[if_neg hbig]at hm
   all_goals
    subst hm
    go_wp2_with (first |(go_at_call 122;refine(ix_at 0 (Kd.C_below hC1.out HB.out) hmc).mono ?_;rw[← HX.out];rintro e w2 ⟨rfl,hd⟩;obtain⟨q2,rfl⟩:=hd.out;clear hd))
    obtain⟨W,hW⟩:∃W,W=(wr.drewN q2).drew:=⟨_,rfl⟩
    go_region_law (first
     |(refine Kd.R_append_step (Kd.int .u8) (w0:=w) w.heap.size (by rfl) (.tmp 27) (.tmp 31) 47 5 (.int .u8 0) 1 rfl Tryz.underlying47 Qid rfl (by decide) (by omega) u3 out (((p':Int)+1)%256) [.int .u8 (((p':Int)+1)%256)] (fun _=>True) (fun _=>False) rfl ?ax ?aP (fun _ hk=>hk.elim) (fun _ _=>trivial) ?aO ?aB ?aS ?aL ?_;(case ax=>rfl);(case aP=>rfl);(case aO=>exact Kd.R_drew (Kd.R_drewN HR.out q2));(case aB=>exact Qcj (Qck HB.out q2));(case aS=>exact HB.out.size);(case aL=>omega);intro v1 w1 b hb1 l hat1)
     |(refine Kd.R_append_rows_step (Kd.int .u8) (Rr:=fun x cs=>cs=[.int .u8 x]) (w0:=w) w.heap.size (by rfl) (.tmp 32) (.tmp 35) 47 5 (.int .u8 0) 1 rfl Tryz.underlying47 Qid rfl (by decide) (by omega) v1 (out++[((p':Int)+1)%256]) (l'.take p') A p' c (fun _=>True) (fun _=>False) rfl rfl b ?bR (fun _ _ h=>h) (fun _ hk=>hk.elim) (fun _ _=>trivial) hb1 hb1.size ?bL ?_;(case bR=>exact Kd.C_below hCp.out hb1);(case bL=>simp;omega);intro v2 w2 a hb2 o hat2))
    all_goals
     have j:=QA a;have k:=QA hb2;clear b hb1 l hat1 a hb2 o hat2
     go_wp2_with fail
     go_roundw
     case rel=>exact⟨l'.drop (p'+1),out++[((p':Int)+1)%256]++l'.take p',A4,n4,c4,rfl,g,⟨by rw[List.length_drop];have:=HN4.out;have:=HN.out;omega⟩,by omega,by
       have:=HN.out;have:=HN4.out;simp only[List.length_append,List.length_singleton,List.length_take];omega,⟨by
       rw[HS.out,Qjt HX.out.symm];simp⟩,⟨hC4 _ _ HC.out⟩,j,k⟩
     case measure=>simp[lenV];omega
  ·have hxm:x=-1:=by omega
   subst hxm;have hix:ixOf (l'.take 254) 0<0:=by have:=HX.out;omega
   have HIX:=QA hix;clear hix
   by_cases hbig:254<n
   ·rw [if_pos hbig]at hm;subst hm;have hbi:(254:Int)<(n:Int):=by omega
    obtain⟨p',hp',_,hcutp,_⟩:=c8_to A n c 254 254 rfl (by omega) hnc;subst hp';obtain⟨A4,n4,c4,d,g,hcut4,hC4⟩:=Qjn A n c 254 254 rfl (by omega) hnc;have HN4:=QA d;have u:n4<n:=by omega
    clear d
    go_wp2_with (first |(go_at_call 122;refine(ix_at 0 (Kd.C_below hC1.out HB.out) hmc).mono ?_;rw[← HX.out];rintro e w2 ⟨rfl,hd⟩;obtain⟨q2,rfl⟩:=hd.out;clear hd))
    go_region_law (first
     |(refine Kd.R_append_step (Kd.int .u8) (w0:=w) w.heap.size (by rfl) (.tmp 45) (.tmp 46) 47 5 (.int .u8 0) 1 rfl Tryz.underlying47 Qid rfl (by decide) (by omega) u3 out 255 [.int .u8 255] (fun _=>True) (fun _=>False) rfl ?ax ?aP (fun _ hk=>hk.elim) (fun _ _=>trivial) ?aO ?aB ?aS ?aL ?_;(case ax=>rfl);(case aP=>rfl);(case aO=>exact Kd.R_drew (Kd.R_drewN HR.out q2));(case aB=>exact Qcj (Qck HB.out q2));(case aS=>exact HB.out.size);(case aL=>omega);intro v1 w1 b hb1 l hat1)
     |(refine Kd.R_append_rows_step (Kd.int .u8) (Rr:=fun x cs=>cs=[.int .u8 x]) (w0:=w) w.heap.size (by rfl) (.tmp 47) (.tmp 49) 47 5 (.int .u8 0) 1 rfl Tryz.underlying47 Qid rfl (by decide) (by omega) v1 (out++[255]) (l'.take 254) A 254 c (fun _=>True) (fun _=>False) rfl rfl b ?bR (fun _ _ h=>h) (fun _ hk=>hk.elim) (fun _ _=>trivial) hb1 hb1.size ?bL ?_;(case bR=>exact Kd.C_below hC1.out hb1);(case bL=>simp;omega);intro v2 w2 a hb2 o hat2))
    all_goals
     have j:=QA a;have k:=QA hb2;clear b hb1 l hat1 a hb2 o hat2
     go_wp2_with fail
     go_roundw
     case rel=>exact⟨l'.drop 254,out++[255]++l'.take 254,A4,n4,c4,rfl,g,⟨by rw[List.length_drop];have:=HN4.out;have:=HN.out;omega⟩,by omega,by
       have:=HN.out;have:=HN4.out;simp only[List.length_append,List.length_singleton,List.length_take];omega,⟨by
       rw[HS.out,Qju HIX.out qq_22];simp⟩,⟨hC4 _ _ HC.out⟩,j,k⟩
     case measure=>simp[lenV];omega
   ·rw[if_neg hbig]at hm;subst hm;have hbi:(m:Int)≤254:=by omega
    go_wp2_with (first
     |(go_at_call 122;refine(ix_at 0 (Kd.C_below hC1.out HB.out) hmc).mono ?_;rw[← HX.out];rintro e w2 ⟨rfl,hd⟩;obtain⟨q2,rfl⟩:=hd.out;clear hd)
     |(at_builtin;refine Kd.R_append (Kd.int .u8) (w0:=w) w.heap.size rfl (.tmp 15) (.tmp 20) 47 5 (.int .u8 0) 1 rfl Tryz.underlying47 Qid rfl (by decide) (by omega) u3 out ((m:Int)+1) [.int .u8 ((m:Int)+1)] (fun _=>True) (fun _=>False) rfl ?ax ?aP (fun _ hk=>hk.elim) ?aF ?aO ?aB ?aS ?aL ?_;(case ax=>rfl);(case aP=>rfl);(case aF=>exact fun _ _=>trivial);(case aO=>exact Kd.R_drewN HR.out q2);(case aB=>exact Qck HB.out q2);(case aS=>exact HB.out.size);(case aL=>omega);intro v1 w1 b hb1 l hat1)
     |(at_builtin;refine Kd.R_append_rows (Kd.int .u8) (Rr:=fun x cs=>cs=[.int .u8 x]) (w0:=w) w.heap.size rfl (.tmp 21) (.tmp 22) 47 5 (.int .u8 0) 1 rfl Tryz.underlying47 Qid rfl (by decide) (by omega) v1 (out++[(m:Int)+1]) (l'.take 254) A m c (fun _=>True) (fun _=>False) rfl rfl b ?bR (fun _ _ h=>h) (fun _ hk=>hk.elim) (fun _ _=>trivial) hb1 hb1.size ?bL ?_;(case bR=>exact Kd.C_below hC1.out hb1);(case bL=>simp;omega);intro v2 w2 a hb2 o hat2))
    go_ret
    refine⟨v2,rfl,?_,hb2⟩;have hlm:=HN.out;rw[HS.out,Qjv HIX.out (by omega),← hlm];rw[List.take_of_length_le (by omega)]at a;rw[show((m:Int)+1)%256=(m:Int)+1 by omega]
    simpa using a
def Qam.f(l0:List Int):Option (List Int):=if l0.length≤35184372088832 then some (Qjq l0)else none
theorem Qam.calls(A0:Option Addr)(c0:Nat)(l0:List Int)(r:List Int)(w:World)(hr0:Kd.C (Kd.int .u8) w A0 l0.length l0)(hc0:l0.length≤c0)(h:Qam.f l0=some r) :
  Calls Tryz.prog 197 #[.slice A0 l0.length c0] w fun e w'=>∃v0_:Value,e=.returned (v0_)∧Kd.R (Kd.int .u8) 5 w' w.heap.size (fun _=>True) v0_ r∧Below w.heap.size w w':=by
 unfold Qam.f at h
 by_cases hl:l0.length≤35184372088832
 ·rw[if_pos hl]at h
  cases h
  exact Qjw A0 c0 l0 w hr0 hc0 hl
 ·rw[if_neg hl]at h;cases h
end Go.Proofs.YtepkfjmjidjedaaGreat.C
end
section
namespace Go.Proofs.YtepkfjmjidjedaaGreat.C
open Go.RowKit Go.Proofs.YtepkfjmjidjedaaGreatW.PrintWords Go.Proofs.YtepkfjmjidjedaaGreatW.PrintLast Go.Proofs.YtepkfjmjidjedaaGreatW.PrintMore
theorem Qjx:((List.range 256).all fun a=>Go.bits .or .u8 (a:Int) 128 == (a:Int)%128+128)=true:=by kernel_rfl
theorem or128(a:Int)(h0:0≤a)(h1:a<256):Go.bits .or .u8 a 128=a%128+128:=by
 have h:=List.all_eq_true.1 Qjx a.toNat (List.mem_range.2 (by omega));have e:((a.toNat:Nat):Int)=a:=by omega
 rw[e]at h;exact eq_of_beq h
def vput:Nat→Int→List Int
 | 0,x=>[x]
 | n+1,x=>if x<128 then [x]else(x%128+128) :: vput n (x/128)
theorem Qjy:∀(n:Nat) (x:Int),(vput n x).length≤n+1
 | 0,_=>by simp[vput]
 | n+1,x=>by
  unfold vput;have:=Qjy n (x/128);split<;>simp<;>omega
theorem Qjz(b g:Nat)(x:Int)(xs:List Int)(w:World)(j:0≤x)(l:x<18446744073709551616)(hbg:b≤g)(hbw:b≤w.heap.size)(hI:IsBuf w b g xs)(hl:xs.length+10≤140737488355328) :
  Calls Tryz.prog 153 #[.pointer (some ⟨g,0,none⟩),.int .u64 x] w fun e w'=>(∃v,e=.returned v)∧IsBuf w' b g (xs++vput 9 x)∧Bw b g w w':=by
 have HI:=QA hI;clear hI
 go_enter Tryz.func153,Tryz.ntmps153
 go_wp2
 go_loopw [1] (fun v1 wr=>∃(k:Nat) (ys:List Int) (xv:Int),k≤9∧ys.length=k∧v1=.int .u64 xv∧0≤xv∧xv<2^(64-7*k)∧Aside0 (vput 9 x=ys++vput (9-k) xv)∧Aside0 (IsBuf wr b g (xs++ys))∧Aside0 (Bw b g w wr))
  (fun v1 _=>(intOf v1).toNat)
 case atStart=>exact⟨0,[],x,by omega,rfl,rfl,j,by simpa using l,⟨rfl⟩,⟨by simpa using HI.out⟩,⟨Bw.refl _ _ _⟩⟩
 case round =>
  obtain⟨k,ys,xv,hk,hys,rfl,n,a,HL,HB,HW⟩:=hrel;have o:xv<18446744073709551616:=by
   have:(2:Int)^(64-7*k)≤2^64:=by exact_mod_cast Nat.pow_le_pow_right (by decide) (by omega)
   omega
  by_cases hlt:128≤xv
  ·have hk9:k<9:=by
    by_cases e:k<9
    ·exact e
    ·obtain rfl:k=9:=by omega
     simp at a;omega
   have hor:=or128 (xv%256) (by omega) (by omega);have hm:(xv%256)%128=xv%128:=by omega
   rw[hm]at hor;have d:xv/128<2^(64-7*(k+1)):=by
    have e:(2:Int)^(64-7*k)=2^(64-7*(k+1))*128:=by
     rw[show 64-7*k=(64-7*(k+1))+7 by omega,Int.pow_add];rfl
    rw[e]at a;exact Int.ediv_lt_of_lt_mul (by decide) a
   have HX5:=QA d;clear a d
   go_wp2_with (go_at_call 141;(try rw[hor]);refine(Qiw b g (xv%128+128) (xs++ys) _ (by omega) (by omega) hbg (Nat.le_trans hbw HW.out.size) HB.out qq_27).mono ?_;rintro e w1 ⟨rfl,hd,hb1⟩;have HI1:=QA hd;have c:=QA (HW.out.trans hb1);clear hd hb1)
   go_roundw
   case rel=>exact⟨k+1,ys++[xv%128+128],xv/128,by omega,by simp[hys],by go_num,by omega,HX5.out,⟨by
    rw[HL.out,show 9-k=(9-(k+1))+1 by omega,vput,if_neg (by omega)];simp⟩,⟨by rw[← List.append_assoc];exact HI1.out⟩,⟨c.out⟩⟩
   case measure=>simp[intOf];omega
  ·have hxm:xv%256=xv:=by omega
   go_wp2_with (go_at_call 141;(try rw[hxm]);refine(Qiw b g xv (xs++ys) _ (by omega) (by omega) hbg (Nat.le_trans hbw HW.out.size) HB.out qq_27).mono ?_;rintro e w1 ⟨rfl,hd,hb1⟩;have HI1:=QA hd;have c:=QA (HW.out.trans hb1);clear hd hb1)
   go_end0
   refine⟨⟨_,rfl⟩,?_,c.out⟩;have e:vput (9-k) xv=[xv]:=by
    cases h:9-k with
    | zero=>rfl
    | succ m=>rw[vput,if_pos (by omega)]
   rw[HL.out,e,← List.append_assoc];exact HI1.out
theorem Qka(W:World)(s:ByteArray)(hs:s.size≤9223372036854775807):Kd.C (Kd.int .u8) (Lib.bytesWorld W 5 s) (some ⟨W.heap.size,0,none⟩) s.size (bytesOf s) :=
 Kd.C_of_reads (d:=(0:Int)) (Qcv W 5 s hs)
theorem Qkb(b g:Nat)(s:ByteArray)(xs:List Int)(w:World)(hs:s.size≤70368744177664)(hbg:b≤g)(hbw:b≤w.heap.size)(hI:IsBuf w b g xs)(hl:xs.length+s.size+10≤140737488355328) :
  Calls Tryz.prog 195 #[.pointer (some ⟨g,0,none⟩),.string s] w fun e w'=>(∃v,e=.returned v)∧IsBuf w' b g (xs++(vput 9 s.size++bytesOf s))∧Bw b g w w':=by
 have hvl:=Qjy 9 s.size;have kb:=fun W=>Qcu (P:=Tryz.prog) 9 47 5 Tryz.underlying9 Tryz.underlying47 Tryz.underlying5 s W
 go_enter Tryz.func195,Tryz.ntmps195
 go_wp2_with (first |(go_at_call 153;refine(Qjz b g s.size xs w (by omega) (by omega) hbg hbw hI (by omega)).mono ?_;rintro e w1 ⟨⟨_,rfl⟩,hd,hb1⟩) |(go_at_call 117;refine(Qjc b g _ _ s.size (bytesOf s) (xs++vput 9 s.size) (Lib.bytesWorld w1 5 s) (Qct s).symm (Qka w1 s (by omega)) hbg (by rw[Lib.bytesWorld_size];have:=hb1.size;omega) (hd.kept (Qcw (Below.refl _ _) (Nat.le_refl _) _ _)) qq_27).mono ?_;rintro e w2 ⟨rfl,hd2,hb2⟩))
 go_end0
 refine⟨⟨_,rfl⟩,by rw[← List.append_assoc];exact hd2,hb1.trans ((Bw.below (Qcw (Below.refl _ _) (Nat.le_refl _) _ _) (by have:=hb1.size;omega)).trans hb2)⟩
theorem rd_mem{l:List Int}{i:Int}(h0:0≤i)(h1:i<l.length):rd l i∈l:=by
 have h:i.toNat<l.length:=by omega
 unfold rd;rw[List.getD_eq_getElem?_getD,List.getElem?_eq_getElem h];exact List.getElem_mem h
theorem Qph{l:List Int}{k:Nat}(h:k<l.length):l.take (k+1)=l.take k++[rd l (k:Int)]:=by
 unfold rd;rw[List.take_add_one,List.getElem?_eq_getElem h,List.getD_eq_getElem?_getD];simp[List.getElem?_eq_getElem h]
theorem Qkd(l:List Int):(l.flatMap (fun x=>leb x 8)).length=8*l.length:=by
 induction l with
 | nil=>rfl
 | cons a l ih=>simp[Qiq,ih];omega
theorem Qke(b g:Nat)(A0:Option Addr)(c0:Nat)(l:List Int)(xs:List Int)(w:World)(hr0:∀W',Bw b g w W'→Kd.C (Kd.int .u64) W' A0 l.length l)(hwf:∀x∈l,0≤x∧x<18446744073709551616)(hbg:b≤g)(hbw:b≤w.heap.size)(hI:IsBuf w b g xs)(hl:xs.length+8*l.length≤140737488355328) :
  Calls Tryz.prog 144 #[.pointer (some ⟨g,0,none⟩),.slice A0 l.length c0] w fun e w'=>(∃v,e=.returned v)∧IsBuf w' b g (xs++l.flatMap (fun x=>leb x 8))∧Bw b g w w':=by
 have HI:=QA hI;clear hI
 go_enter Tryz.func144,Tryz.ntmps144
 go_wp2
 go_loopw [8] (fun i wr=>∃(k:Nat) (iv:Int),k≤l.length∧i=.int .i64 iv∧Aside0 (iv=(k:Int))∧Aside0 (IsBuf wr b g (xs++(l.take k).flatMap (fun x=>leb x 8)))∧Aside0 (Bw b g w wr))
  (fun i _=>l.length-(intOf i).toNat)
 case atStart=>exact⟨0,0,Nat.zero_le _,rfl,⟨rfl⟩,⟨by simpa using HI.out⟩,⟨Bw.refl _ _ _⟩⟩
 case round =>
  obtain⟨k,iv,hk,rfl,HK,HB,HW⟩:=hrel
  by_cases hlt:k<l.length
  ·have hge:0≤iv:=by have:=HK.out;omega
   have hl2:iv<(l.length:Int):=by have:=HK.out;omega
   obtain⟨ad,rfl,a⟩:=Kd.at_int (hr0 wr HW.out) iv hge hl2;obtain⟨x,hx⟩:∃x,x=rd l iv:=⟨_,rfl⟩;rw[← hx]at a;have hxr:0≤x∧x<18446744073709551616:=by rw[hx];exact hwf _ (rd_mem hge hl2)
   have HX:=QA hx;clear hx;have hlen:=QA (show(xs++(l.take k).flatMap (fun x=>leb x 8)).length+8≤140737488355328 by rw[List.length_append,Qkd,List.length_take];omega)
   go_wp2_with (go_at_call 196;refine(Qiz b g x (xs++(l.take k).flatMap (fun x=>leb x 8)) _ hxr.1 hxr.2 hbg (Nat.le_trans hbw HW.out.size) HB.out hlen.out).mono ?_;rintro e w1 ⟨rfl,hd,hb1⟩;have HI1:=QA hd;have c:=QA (HW.out.trans hb1);clear hd hb1)
   go_roundw
   case rel=>exact⟨k+1,iv+1,by omega,by go_num,⟨by have:=HK.out;omega⟩,⟨by
    have e1:iv=(k:Int):=HK.out;rw[Qph hlt,List.flatMap_append,← List.append_assoc,← e1,← HX.out]
    simpa using HI1.out⟩,⟨c.out⟩⟩
   case measure=>simp[intOf];omega
  ·obtain rfl:k=l.length:=by omega
   obtain rfl:iv=(l.length:Int):=HK.out;go_wp2;go_end0
   refine⟨⟨_,rfl⟩,?_,HW.out⟩
   simpa using HB.out
def ent(x:S177):List Int:=leb x.f0 8++leb x.f1 4
theorem Qkf{l:List S177}{k:Nat}(h:k<l.length):l.take (k+1)=l.take k++[Qio l (k:Int)]:=by
 unfold Qio;rw[List.take_add_one,List.getElem?_eq_getElem h,List.getD_eq_getElem?_getD];simp[List.getElem?_eq_getElem h]
theorem rdT_mem{l:List S177}{i:Int}(h0:0≤i)(h1:i<l.length):Qio l i∈l:=by
 have h:i.toNat<l.length:=by omega
 unfold Qio;rw[List.getD_eq_getElem?_getD,List.getElem?_eq_getElem h];exact List.getElem_mem h
theorem Qkg(l:List S177):(l.flatMap ent).length=12*l.length:=by
 induction l with
 | nil=>rfl
 | cons a l ih=>simp[ent,Qiq,ih];omega
theorem Qkh(b g:Nat)(A0:Option Addr)(c0:Nat)(l:List S177)(xs:List Int)(w:World)(hr0:∀W',Bw b g w W'→Kd.C k177 W' A0 l.length l)(hwf:∀x∈l,(0≤x.f0∧x.f0<18446744073709551616)∧0≤x.f1∧x.f1<4294967296)(hbg:b≤g)(hbw:b≤w.heap.size)(hI:IsBuf w b g xs)(hl:xs.length+12*l.length≤140737488355328) :
  Calls Tryz.prog 143 #[.pointer (some ⟨g,0,none⟩),.slice A0 l.length c0] w fun e w'=>(∃v,e=.returned v)∧IsBuf w' b g (xs++l.flatMap ent)∧Bw b g w w':=by
 have hu:=Tryz.underlying177;have HI:=QA hI;clear hI
 go_enter Tryz.func143,Tryz.ntmps143
 go_wp2
 go_loopw [8] (fun i wr=>∃(k:Nat) (iv:Int),k≤l.length∧i=.int .i64 iv∧Aside0 (iv=(k:Int))∧Aside0 (IsBuf wr b g (xs++(l.take k).flatMap ent))∧Aside0 (Bw b g w wr))
  (fun i _=>l.length-(intOf i).toNat)
 case atStart=>exact⟨0,0,Nat.zero_le _,rfl,⟨rfl⟩,⟨by simpa using HI.out⟩,⟨Bw.refl _ _ _⟩⟩
 case round =>
  obtain⟨k,iv,hk,rfl,HK,HB,HW⟩:=hrel
  by_cases hlt:k<l.length
  ·have hge:0≤iv:=by have:=HK.out;omega
   have hl2:iv<(l.length:Int):=by have:=HK.out;omega
   obtain⟨ad,rfl,a,c⟩:=Qip (hr0 wr HW.out) iv hge hl2;obtain⟨x,hx⟩:∃x,x=Qio l iv:=⟨_,rfl⟩;rw[← hx]at a c;have hxr:=hwf x (by rw[hx];exact rdT_mem hge hl2);have HX:=QA hx;clear hx;have hlen:=QA (show(xs++(l.take k).flatMap ent).length+12≤140737488355328 by rw[List.length_append,Qkg,List.length_take];omega)
   go_upto_region 3 with fail
   obtain⟨B,hBe⟩:∃B,B=wr.heap.size:=⟨_,rfl⟩;obtain⟨W,hW⟩:∃W,W=wr.alloc (.cells #[.int .u64 x.f0,.int .u32 x.f1] 177):=⟨_,rfl⟩;have hBlk:W.heap[B]? = some (.cells #[.int .u64 x.f0,.int .u32 x.f1] 177 (0,0)):=by rw[hW,hBe];exact Qdt wr _
   have hIB:IsBuf W b g (xs++(l.take k).flatMap ent):=by rw[hW];exact HB.out.kept (Qci (Below.refl _ _) _)
   have hBW:Bw b g w W:=by rw[hW];exact HW.out.trans (Bw.below (Qci (Below.refl _ _) _) (Nat.le_trans hbw HW.out.size))
   have hgB:B≠g:=by have:=HB.out.lt;omega
   rw[← hW,← hBe];clear hW hBe a c;have d0:Below W.heap.size W W.drew:=Qcj (Below.refl _ _);have hBlk1:=Qds hBlk d0;have hIB1:=hIB.kept d0;have hBW1:Bw b g w W.drew:=hBW.trans (Bw.below d0 (Nat.le_trans hbw hBW.size));have c0:W.drew.cell? ⟨B,0,none⟩=some (.int .u64 x.f0):=(Qdf hBlk1 0).trans rfl;have c1:W.drew.cell? ⟨B,1,none⟩=some (.int .u32 x.f1):=(Qdf hBlk1 1).trans rfl;have hs1:b≤W.drew.heap.size:=Nat.le_trans hbw hBW1.size
   go_region_held3 (fun w'=>w'.cell? ⟨B,0,none⟩=some (.int .u64 x.f0)∧w'.cell? ⟨B,1,none⟩=some (.int .u32 x.f1)) (first|exact⟨c0,c1⟩|exact⟨c2,c3⟩|exact⟨c4,c5⟩) (first |(go_at_call 196;refine(Qiz b g x.f0 (xs++(l.take k).flatMap ent) W.drew hxr.1.1 hxr.1.2 hbg hs1 hIB1 (by have:=hlen.out;omega)).mono ?_;rintro e w2 ⟨rfl,hI2,hb2⟩;have hBlk2:=hb2.2 _ _ _ hBlk1 (by decide) hgB;have c2:w2.cell? ⟨B,0,none⟩=some (.int .u64 x.f0):=(Qdf hBlk2 0).trans rfl;have c3:w2.cell? ⟨B,1,none⟩=some (.int .u32 x.f1):=(Qdf hBlk2 1).trans rfl) |(go_at_call 142;refine(Qiy b g x.f1 (xs++(l.take k).flatMap ent++leb x.f0 8) w2 hxr.2.1 hxr.2.2 hbg (Nat.le_trans hs1 hb2.size) hI2 (by have:=hlen.out;simp[Qiq]at this ⊢;omega)).mono ?_;rintro e w3 ⟨rfl,hI3,hb3⟩;have hBlk3:=hb3.2 _ _ _ hBlk2 (by decide) hgB;have c4:w3.cell? ⟨B,0,none⟩=some (.int .u64 x.f0):=(Qdf hBlk3 0).trans rfl;have c5:w3.cell? ⟨B,1,none⟩=some (.int .u32 x.f1):=(Qdf hBlk3 1).trans rfl))
   have HI3:=QA hI3;have d:=QA (hBW1.trans (hb2.trans hb3));clear hI3 hI2 hb2 hb3 c0 c1 c2 c3 c4 c5 hBlk hBlk1 hBlk2 hBlk3 hIB hIB1 hBW hBW1;go_wp2
   go_roundw
   case rel=>exact⟨k+1,iv+1,by omega,by go_num,⟨by have:=HK.out;omega⟩,⟨by
    have e1:iv=(k:Int):=HK.out;rw[Qkf hlt,List.flatMap_append,← List.append_assoc,← e1,← HX.out]
    simpa [ent]using HI3.out⟩,⟨d.out⟩⟩
   case measure=>simp[intOf];omega
  ·obtain rfl:k=l.length:=by omega
   obtain rfl:iv=(l.length:Int):=HK.out;go_wp2;go_end0
   refine⟨⟨_,rfl⟩,?_,HW.out⟩
   simpa using HB.out
def chk(d:Bool)(key v:ByteArray):Int:=if key.toList=([]:List UInt8)then 4 else if(key.size:Int) > 4096 then 3 else if(d && (v.toList != ([]:List UInt8)))=true then 4 else if(v.size:Int) > 1048576 then 3 else 0
theorem Qki(d:Bool)(s:Int)(key v:ByteArray):Qbx.f 1 d s key v=some (chk d key v):=by
 unfold Qbx.f chk;split
 ·rfl
 split
 ·rfl
 cases d
 ·simp only[Bool.false_eq_true,if_false,Bool.false_and,Qbx.j0];split<;>rfl
 ·simp only[if_true,Bool.true_and,Qbx.j0];split
  ·rfl
  ·split<;>rfl
theorem Qkj{d:Bool}{key v:ByteArray}(h:chk d key v=0):key.size≤4096∧v.size≤1048576:=by
 unfold chk at h
 repeat' split at h
 all_goals first|omega|skip
def Qkk(d:Bool)(s:Int)(key v:ByteArray):List Int:=[if d then 3 else 2]++vput 9 s++(vput 9 key.size++bytesOf key)++(if d then []else vput 9 v.size++bytesOf v)
def Qbw.f(a0_0:Bool)(a0_1:Int)(a0_2:ByteArray)(a0_3:ByteArray):Option (List Int × Int) :=
 if 0≤a0_1 then if a0_1<18446744073709551616 then some (if chk a0_0 a0_2 a0_3=0 then(Qkk a0_0 a0_1 a0_2 a0_3,0)else([],chk a0_0 a0_2 a0_3))else none else none
theorem IsBuf.new(w:World)(b:Nat):IsBuf (w.alloc (.cells #[.slice none 0 0] 207)) b w.heap.size []:=⟨_,Qdt w _,Kd.R_nil _ _ _ _ _⟩
theorem box4{W:World}{B:Nat}{d:Bool}{s:Int}{key v:ByteArray}(h:W.heap[B]? = some (.cells #[.bool d,.int .u64 s,.string key,.string v] 36 (0,0))) :
  W.cell? ⟨B,0,none⟩=some (.bool d)∧W.cell? ⟨B,1,none⟩=some (.int .u64 s)∧W.cell? ⟨B,2,none⟩=some (.string key)∧W.cell? ⟨B,3,none⟩=some (.string v) :=
 ⟨(Qdf h 0).trans rfl,(Qdf h 1).trans rfl,(Qdf h 2).trans rfl,(Qdf h 3).trans rfl⟩
theorem body_of(d:Bool)(s:Int)(key v:ByteArray)(w:World)(hs0:0≤s)(hs1:s<18446744073709551616)(hc:chk d key v=0) :
  Calls Tryz.prog 137 #[.agg #[.bool d,.int .u64 s,.string key,.string v]] w fun e w'=>∃a:Value,e=.returned (.tuple #[a,.int .i64 0])∧R8 w' w.heap.size a (Qkk d s key v)∧Below w.heap.size w w':=by
 have hu:=Tryz.underlying36;obtain⟨hk,hv⟩:=Qkj hc;have hl1:=Qjy 9 s;have hl2:=Qjy 9 key.size;have hl3:=Qjy 9 v.size;have hkl:=Qct key;have hvl:=Qct v;have hcheck:=Qki d s key v;rw[hc]at hcheck;have HC:=QA hcheck;clear hcheck hc;have hba:Below w.heap.size w (w.alloc (.cells #[.bool d,.int .u64 s,.string key,.string v] 36)):=Qci (Below.refl _ _) _;have hbn:=Qdt w (.cells #[.bool d,.int .u64 s,.string key,.string v] 36)
 cases d
 all_goals
  go_enter Tryz.func137,Tryz.ntmps137
  go_wp2_with (first
   |(go_at_call 91;refine(Qbx.calls 1 _ s key v 0 _ HC.out).mono ?_;rintro e w1 ⟨rfl,hb1⟩;have hk1:=Qds hbn hb1;obtain⟨c0,c1,c2,c3⟩:=box4 hk1;have hw1:=QA (Qcl hba hba.size hb1);have hs1':=QA (show w.heap.size<w1.heap.size from Qde hk1);have HI1:=QA (IsBuf.new w1 w.heap.size);have hk1':=Qdp hk1 (.cells #[.slice none 0 0] 207);obtain⟨b,c,g,h⟩:=box4 hk1';clear hk1 hb1 hbn hba)
   |(go_at_call 141;refine(Qiw w.heap.size w1.heap.size _ [] _ (by decide) (by decide) (Nat.le_of_lt hs1'.out) (by rw[World.size_alloc];have:=hs1'.out;omega) HI1.out (by simp)).mono ?_;rintro e w2 ⟨rfl,hI2,hb2⟩;have hk2:=hb2.2 _ _ _ hk1' (by decide) (Nat.ne_of_lt hs1'.out);obtain⟨d0,d1,d2,d3⟩:=box4 hk2;have HI2:=QA hI2;have hs2:=QA hb2.size;clear hI2 c0 c1 c2 c3 b c g h)
   |(go_at_call 153;refine(Qjz w.heap.size w1.heap.size s _ _ hs0 hs1 (Nat.le_of_lt hs1'.out) (by have:=hs1'.out;have:=hs2.out;simp at this;omega) HI2.out (by simp)).mono ?_;rintro e w3 ⟨⟨_,rfl⟩,hI3,hb3⟩;have hk3:=hb3.2 _ _ _ hk2 (by decide) (Nat.ne_of_lt hs1'.out);obtain⟨e0,e1,e2,e3⟩:=box4 hk3;have HI3:=QA hI3;have hs3:=QA (Nat.le_trans hs2.out hb3.size);clear hI3 d0 d1 d2 d3)
   |(go_at_call_of 195 key;refine(Qkb w.heap.size w1.heap.size key _ _ (by omega) (Nat.le_of_lt hs1'.out) (by have:=hs1'.out;have:=hs3.out;simp at this;omega) HI3.out qq_27).mono ?_;rintro e w4 ⟨⟨_,rfl⟩,hI4,hb4⟩;have hk4:=hb4.2 _ _ _ hk3 (by decide) (Nat.ne_of_lt hs1'.out);obtain⟨f0,f1,f2,f3⟩:=box4 hk4;have HI4:=QA hI4;have hs4:=QA (Nat.le_trans hs3.out hb4.size);clear hI4 e0 e1 e2 e3)
   |(go_at_call_of 195 v;refine(Qkb w.heap.size w1.heap.size v _ _ (by omega) (Nat.le_of_lt hs1'.out) (by have:=hs1'.out;have:=hs4.out;simp at this;omega) HI4.out qq_27).mono ?_;rintro e w5 ⟨⟨_,rfl⟩,hI5,hb5⟩;have HI5:=QA hI5;have hs5:=QA (Nat.le_trans hs4.out hb5.size))
   |(go_at_call 118;first |(refine(Qjd w.heap.size w1.heap.size _ _ HI5.out qq_27).mono ?_;rintro e w6 ⟨vv,rfl,hR6,hb6⟩) |(refine(Qjd w.heap.size w1.heap.size _ _ HI4.out qq_27).mono ?_;rintro e w6 ⟨vv,rfl,hR6,hb6⟩)))
 ·refine bodyPost_ret (results_tmp2 rfl _ _ _) rfl ?_;have hsz:=hs5.out;simp at hsz;have:=hs1'.out;refine⟨vv,rfl,?_,(((((hw1.out.trans (Qis (Qci (Below.refl _ _) _) (Nat.le_of_lt hs1'.out))).trans hb2.1).trans hb3.1).trans hb4.1).trans hb5.1).trans (Qis hb6 (by omega))⟩;have e:Qkk false s key v=[]++[2]++vput 9 s++(vput 9 key.size++bytesOf key)++(vput 9 v.size++bytesOf v):=by simp[Qkk]
  rw[e];exact hR6.low (by omega)
 ·refine bodyPost_ret (results_tmp2 rfl _ _ _) rfl ?_;have hsz:=hs4.out;simp at hsz;have:=hs1'.out;refine⟨vv,rfl,?_,((((hw1.out.trans (Qis (Qci (Below.refl _ _) _) (Nat.le_of_lt hs1'.out))).trans hb2.1).trans hb3.1).trans hb4.1).trans (Qis hb6 (by omega))⟩;have e:Qkk true s key v=[]++[3]++vput 9 s++(vput 9 key.size++bytesOf key):=by simp[Qkk]
  rw[e];exact hR6.low (by omega)
theorem Qkl(d:Bool)(s:Int)(key v:ByteArray)(w:World)(c:Int)(hc:chk d key v=c)(hn:c≠0) :
  Calls Tryz.prog 137 #[.agg #[.bool d,.int .u64 s,.string key,.string v]] w fun e w'=>∃v0_:Value,e=.returned (.tuple #[v0_,.int .i64 c])∧R8 w' w.heap.size v0_ []∧Below w.heap.size w w':=by
 have hu:=Tryz.underlying36;have hcheck:=Qki d s key v;rw[hc]at hcheck;have HC:=QA hcheck;have hn1:(c == 0)=false:=by simpa using hn
 have hn2:(c != 0)=true:=by simpa using hn
 clear hcheck hc;have hba:Below w.heap.size w (w.alloc (.cells #[.bool d,.int .u64 s,.string key,.string v] 36)):=Qci (Below.refl _ _) _
 go_enter Tryz.func137,Tryz.ntmps137
 go_wp2_with (go_at_call 91;refine(Qbx.calls 1 _ s key v c _ HC.out).mono ?_;rintro e w1 ⟨rfl,hb1⟩)
 refine bodyPost_ret (results_tmp2 rfl _ _ _) rfl ?_;exact⟨_,rfl,Kd.R_nil _ _ _ _ _,Qcl hba hba.size hb1⟩
theorem Qbw.calls(a0_0:Bool)(a0_1:Int)(a0_2:ByteArray)(a0_3:ByteArray)(r1:List Int)(r2:Int)(w:World)(h:Qbw.f a0_0 a0_1 a0_2 a0_3=some (r1,r2)) :
  Calls Tryz.prog 137 #[.agg #[.bool a0_0,.int .u64 a0_1,.string a0_2,.string a0_3]] w fun e w'=>∃v0_:Value,e=.returned (.tuple #[v0_,.int .i64 r2])∧Kd.R (Kd.int .u8) 5 w' w.heap.size (fun _=>True) v0_ r1∧Below w.heap.size w w':=by
 unfold Qbw.f at h
 by_cases h0:0≤a0_1
 ·by_cases h1:a0_1<18446744073709551616
  ·rw[if_pos h0,if_pos h1]at h
   by_cases h2:chk a0_0 a0_2 a0_3=0
   ·rw[if_pos h2]at h
    cases h
    exact body_of _ _ _ _ w h0 h1 h2
   ·rw[if_neg h2]at h
    cases h
    exact Qkl _ _ _ _ w _ rfl h2
  ·rw[if_pos h0,if_neg h1]at h;cases h
 ·rw[if_neg h0]at h;cases h
theorem Qkv(a0:Int)(A1:Option Addr)(c1:Nat)(l1:List Int)(w:World)(hr1:Kd.C (Kd.int .u8) w A1 l1.length l1)(hl:l1.length≤140737488355328) :
  Calls Tryz.prog 154 #[.int .u64 a0,.slice A1 l1.length c1] w fun e w'=>e=.returned (.int .u64 (Qkt a0 l1))∧Below w.heap.size w w':=by
 go_enter Tryz.func154,Tryz.ntmps154
 go_wp2_with (first |(go_at_call 210;refine(st_New a0 w).mono ?_;rintro e w1 ⟨rfl,⟨rv,hv,hR⟩,hb1⟩;have hv1:StAt w1 w.heap.size a0 (IntKind.u64.wrap (IntKind.u64.wrap (a0+Q1)+Q2),IntKind.u64.wrap (a0+Q2),a0,IntKind.u64.wrap (a0-Q1)) rv 0:=hv;have hr:=Kd.C_below hr1 hb1;have hf:=Kd.far_C (0:Int) hr1 (Nat.le_refl w.heap.size)) |(go_at_call 211;refine(Qku w.heap.size w.heap.size a0 _ rv A1 c1 l1 w1 hr hf hv1 hR (Nat.le_refl _) hb1.size hl).mono ?_;rintro e w2 ⟨rfl,⟨rv2,hv2,hR2⟩,hb2⟩) |(go_at_call 212;refine(st_Sum w.heap.size w.heap.size a0 _ rv2 _ _ w2 hv2 (Kd.Q_of_R hR2)).mono ?_;rintro e w3 ⟨rfl,hb3⟩))
 go_ret
 exact⟨rfl,(hb1.trans hb2).trans (Qis hb3 (Nat.le_trans hb1.size hb2.size))⟩
theorem sum_of'(a0:Int)(A1:Option Addr)(c1 n:Nat)(l1:List Int)(w:World)(hn:n=l1.length)(hr1:Kd.C (Kd.int .u8) w A1 n l1)(hl:n≤140737488355328) :
  Calls Tryz.prog 154 #[.int .u64 a0,.slice A1 n c1] w fun e w'=>e=.returned (.int .u64 (Qkt a0 l1))∧Below w.heap.size w w':=by
 subst hn;exact Qkv a0 A1 c1 l1 w hr1 hl
theorem Qkw(s:ByteArray)(w:World)(hl:s.size≤140737488355328) :
  Calls Tryz.prog 94 #[.string s] w fun e w'=>e=.returned (.int .u64 (Qkt 0 (bytesOf s)))∧Below w.heap.size w w':=by
 have kb:=fun W=>Qcu (P:=Tryz.prog) 9 47 5 Tryz.underlying9 Tryz.underlying47 Tryz.underlying5 s W
 have hbb:=Qcw (Below.refl w.heap.size w) (Nat.le_refl _) 5 s
 go_enter Tryz.func94,Tryz.ntmps94
 go_wp2_with (go_at_call 154;refine(sum_of' 0 _ _ s.size (bytesOf s) (Lib.bytesWorld w 5 s) (Qct s).symm (Qka w s (by omega)) hl).mono ?_;rintro e w1 ⟨rfl,hb1⟩)
 go_ret
 exact⟨rfl,Qcl hbb hbb.size hb1⟩
theorem Qkx(x:Int):0≤IntKind.u64.wrap x∧IntKind.u64.wrap x<18446744073709551616:=by
 simp[IntKind.wrap,IntKind.signed,IntKind.bits];omega
theorem Qky(op:BinOp)(x y:Int):0≤Go.bits op .u64 x y∧Go.bits op .u64 x y<18446744073709551616:=by
 unfold Go.bits;split<;>exact Qkx _
theorem Qkz(sd:Int)(l:List Int):0≤Qkt sd l∧Qkt sd l<18446744073709551616:=by
 unfold Qkt sumP finP;split<;>exact Qky _ _ _
def Qla(b:List Int):List Int:=Qjq (b++leb (Qkt 0 b) 8)++[0]
theorem Qlb:∀(n:Nat) (b:List Int),b.length≤n→(Qjq b).length≤2*b.length+1
 | n,b,h=>by
  rcases Int.lt_or_le (ixOf (b.take 254) 0) 0 with h0|h0
  ·by_cases hl:254<b.length
   ·rw[Qju h0 hl];have hd:(b.drop 254).length<b.length:=by rw[List.length_drop];omega
    cases n with
    | zero=>omega
    | succ n =>
     have:=Qlb n (b.drop 254) (by omega);simp only[List.length_cons,List.length_append,List.length_take,List.length_drop]at this ⊢;omega
   ·rw[Qjv h0 hl];simp;omega
  ·obtain⟨p,hp⟩:=Int.eq_ofNat_of_zero_le h0;have h1:=(Qjo (b.take 254) 0).2;rw[hp,List.length_take]at h1;rw[Qjt hp]
   cases n with
   | zero=>omega
   | succ n =>
    have:=Qlb n (b.drop (p+1)) qq_31;simp only[List.length_cons,List.length_append,List.length_take,List.length_drop]at this ⊢;omega
theorem R8.reads{W:World}{b:Nat}{v:Value}{xs:List Int}(h:R8 W b v xs):∃A n c,v=.slice A n c∧Aside0 (n=xs.length)∧n≤c∧Kd.C (Kd.int .u8) W A n xs:=by
 obtain⟨A,c,e,h1,h2⟩:=Kd.R_reads h;exact⟨A,_,c,e,⟨rfl⟩,h1,h2⟩
theorem Qlc(A:Option Addr)(n c:Nat)(l:List Int)(w:World)(hC:Kd.C (Kd.int .u8) w A n l)(hc:n≤c)(hl:l.length≤35184372088832) :
  Calls Tryz.prog 197 #[.slice A n c] w fun e w'=>∃v0_:Value,e=.returned (v0_)∧R8 w' w.heap.size v0_ (Qjq l)∧Below w.heap.size w w':=by
 have hn:=hC.1;subst hn;exact Qjw A c l w hC hc hl
theorem Qld(l:List Int):([]++l++leb (Qkt 0 l) 8).length=l.length+8:=by simp[Qiq]
theorem Qle(A0:Option Addr)(c0:Nat)(l0:List Int)(w:World)(hr0:Kd.C (Kd.int .u8) w A0 l0.length l0)(hl:l0.length≤35184372088824) :
  Calls Tryz.prog 138 #[.slice A0 l0.length c0] w fun e w'=>∃a:Value,e=.returned (a)∧R8 w' w.heap.size a (Qla l0)∧Below w.heap.size w w':=by
 have hI0:=QA (IsBuf.new w w.heap.size);have hb0:Below w.heap.size w (w.alloc (.cells #[.slice none 0 0] 207)):=Qci (Below.refl _ _) _;have hz0:w.heap.size≤(w.alloc (.cells #[.slice none 0 0] 207)).heap.size:=hb0.size;have hC0:=Kd.C_below hr0 hb0;have hh:=Qkz 0 l0
 go_enter Tryz.func138,Tryz.ntmps138
 go_wp2_with (first
  |(go_at_call 117;refine(Qjb w.heap.size w.heap.size A0 c0 l0 [] _ hC0 (Nat.le_refl _) hz0 hI0.out qq_27).mono ?_;rintro e w1 ⟨rfl,hI1,hb1⟩;have hC1:=Kd.C_below hr0 (hb0.trans hb1.1))
  |(go_at_call 154;refine(Qkv 0 A0 c0 l0 w1 hC1 (by omega)).mono ?_;rintro e w2 ⟨rfl,hb2⟩;have hI2:=hI1.kept hb2)
  |(go_at_call 196;refine(Qiz w.heap.size w.heap.size _ _ w2 hh.1 hh.2 (Nat.le_refl _) (Nat.le_trans (Nat.le_trans hz0 hb1.size) hb2.size) hI2 qq_27).mono ?_;rintro e w3 ⟨rfl,hI3,hb3⟩)
  |(go_at_call 118;refine(Qjd w.heap.size w.heap.size _ w3 hI3 (by rw[Qld];omega)).mono ?_;rintro e w4 ⟨v4,rfl,hR4,hb4⟩;obtain⟨A4,n4,c4,rfl,d,hlc4,hC4⟩:=R8.reads hR4)
  |(go_at_call 197;refine(Qlc A4 n4 c4 _ w4 hC4 hlc4 (by rw[Qld];omega)).mono ?_;rintro e w5 ⟨v5,rfl,hR5,hb5⟩;have b:=QA hR5;have hz5:w.heap.size≤w5.heap.size:=Nat.le_trans (Nat.le_trans (Nat.le_trans (Nat.le_trans (Nat.le_trans hz0 hb1.size) hb2.size) hb3.size) hb4.size) hb5.size;have hB5:=QA (show Below w.heap.size w w5 from((((hb0.trans hb1.1).trans (Qis hb2 (Nat.le_trans hz0 hb1.size))).trans hb3.1).trans (Qis hb4 (Nat.le_trans (Nat.le_trans (Nat.le_trans hz0 hb1.size) hb2.size) hb3.size))).trans (Qis hb5 (Nat.le_trans (Nat.le_trans (Nat.le_trans (Nat.le_trans hz0 hb1.size) hb2.size) hb3.size) hb4.size)));clear hR5)
  |(at_builtin;refine Kd.R_append (Kd.int .u8) (w0:=w) w.heap.size rfl (.tmp 10) (.tmp 11) 47 5 (.int .u8 0) 1 rfl Tryz.underlying47 Qid rfl (by decide) (by omega) v5 (Qjq ([]++l0++leb (Qkt 0 l0) 8)) 0 [.int .u8 0] (fun _=>True) (fun _=>False) rfl ?ax ?aP (fun _ hk=>hk.elim) ?aF ?aO ?aB ?aS ?aL ?_;(case ax=>rfl);(case aP=>rfl);(case aF=>exact fun _ _=>trivial);(case aO=>exact b.out.low (Nat.le_trans (Nat.le_trans (Nat.le_trans (Nat.le_trans hz0 hb1.size) hb2.size) hb3.size) hb4.size));(case aB=>exact hB5.out);(case aS=>exact hz5);(case aL=>have:=Qlb _ ([]++l0++leb (Qkt 0 l0) 8) (Nat.le_refl _);rw[Qld]at this;omega);intro v6 w6 c hb6 g hat6))
 go_ret
 exact⟨v6,rfl,c,hb6⟩
def Qbj.f(l0:List Int):Option (List Int):=if l0.length≤35184372088824 then some (Qla l0)else none
theorem Qbj.calls(A0:Option Addr)(c0:Nat)(l0:List Int)(r:List Int)(w:World)(hr0:Kd.C (Kd.int .u8) w A0 l0.length l0)(hc0:l0.length≤c0)(h:Qbj.f l0=some r) :
  Calls Tryz.prog 138 #[.slice A0 l0.length c0] w fun e w'=>∃v0_:Value,e=.returned (v0_)∧Kd.R (Kd.int .u8) 5 w' w.heap.size (fun _=>True) v0_ r∧Below w.heap.size w w':=by
 unfold Qbj.f at h
 by_cases hl:l0.length≤35184372088824
 ·rw[if_pos hl]at h
  cases h
  exact Qle A0 c0 l0 w hr0 hl
 ·rw[if_neg hl]at h;cases h
def Qlf(e s n:Int):List Int:=Qla ([1,2,e]++vput 9 s++vput 9 n)
def Qbh.f(a0_0 a0_1 a1:Int):Option (List Int × Int) :=
 (Qbl.f a0_0 a0_1 a1).bind fun e=>if e=0 then(if 0≤a0_0∧a0_0<256∧0≤a0_1∧a0_1<4294967296∧0≤a1∧a1<4294967296 then some (Qlf a0_0 a0_1 a1,0)else none)else some ([],e)
theorem Qlg(A:Option Addr)(n c:Nat)(l:List Int)(w:World)(hC:Kd.C (Kd.int .u8) w A n l)(hl:l.length≤35184372088824) :
  Calls Tryz.prog 138 #[.slice A n c] w fun e w'=>∃v0_:Value,e=.returned (v0_)∧R8 w' w.heap.size v0_ (Qla l)∧Below w.heap.size w w':=by
 have hn:=hC.1;subst hn;exact Qle A c l w hC hl
theorem box2{W:World}{B:Nat}{e s:Int}(h:W.heap[B]? = some (.cells #[.int .u8 e,.int .u32 s] 40 (0,0))):W.cell? ⟨B,0,none⟩=some (.int .u8 e)∧W.cell? ⟨B,1,none⟩=some (.int .u32 s) :=
 ⟨(Qdf h 0).trans rfl,(Qdf h 1).trans rfl⟩
theorem head_of(e s n:Int)(w:World)(hc:Qbl.f e s n=some 0)(he0:0≤e)(he1:e<256)(hs0:0≤s)(hs1:s<4294967296)(b:0≤n)(d:n<4294967296) :
  Calls Tryz.prog 90 #[.agg #[.int .u8 e,.int .u32 s],.int .u32 n] w fun ee w'=>∃a:Value,ee=.returned (.tuple #[a,.int .i64 0])∧R8 w' w.heap.size a (Qlf e s n)∧Below w.heap.size w w':=by
 have hu:=Tryz.underlying40;have hl1:=Qjy 9 s;have hl2:=Qjy 9 n;have HC:=QA hc;clear hc;have hba:Below w.heap.size w (w.alloc (.cells #[.int .u8 e,.int .u32 s] 40)):=Qci (Below.refl _ _) _;have hbn:=Qdt w (.cells #[.int .u8 e,.int .u32 s] 40)
 go_enter Tryz.func90,Tryz.ntmps90
 go_wp2_with (first
  |(go_at_call 152;refine(Qbl.calls e s n 0 _ HC.out).mono ?_;rintro ee w1 ⟨rfl,hb1⟩;have hk1:=Qds hbn hb1;have hw1:=QA (Qcl hba hba.size hb1);have hs1':=QA (show w.heap.size<w1.heap.size from Qde hk1);have HI1:=QA (IsBuf.new w1 w.heap.size);have hk1':=Qdp hk1 (.cells #[.slice none 0 0] 207);obtain⟨c0,c1⟩:=box2 hk1';clear hk1 hb1 hbn hba))
 obtain⟨W,hW⟩:∃W,W=w1.alloc (.cells #[.slice none 0 0] 207):=⟨_,rfl⟩;have hbW:Below w1.heap.size w1 W:=by rw[hW];exact Qci (Below.refl _ _) _
 rw[← hW]at hk1' c0 c1 HI1 ⊢;clear hW;have hkd:=Qds hk1' (Qcj (Below.refl W.heap.size W));have hId:=HI1.out.kept (Qcj (Below.refl W.heap.size W));obtain⟨j0,j1⟩:=box2 hkd;have hg:=Nat.le_of_lt hs1'.out;have hzd:w.heap.size≤W.drew.heap.size:=Nat.le_trans hg hbW.size;have hne:=Nat.ne_of_lt hs1'.out
 go_region_held3 (fun w'=>w'.cell? ⟨w.heap.size,0,none⟩=some (.int .u8 e)∧w'.cell? ⟨w.heap.size,1,none⟩=some (.int .u32 s)) (first|exact⟨j0,j1⟩|exact⟨i0,i1⟩|exact⟨i2,i3⟩|exact⟨i4,i5⟩) (first
  |(go_at_call_of 141 (Value.int .u8 1);refine(Qiw w.heap.size w1.heap.size 1 [] W.drew (by decide) (by decide) hg hzd hId (by simp)).mono ?_;rintro ee w2 ⟨rfl,hI2,hb2⟩;have hk2:=hb2.2 _ _ _ hkd (by decide) hne;obtain⟨i0,i1⟩:=box2 hk2)
  |(go_at_call_of 141 (Value.int .u8 2);refine(Qiw w.heap.size w1.heap.size 2 ([]++[1]) w2 (by decide) (by decide) hg (Nat.le_trans hzd hb2.size) hI2 (by simp)).mono ?_;rintro ee w3 ⟨rfl,hI3,hb3⟩;have hk3:=hb3.2 _ _ _ hk2 (by decide) hne;obtain⟨i2,i3⟩:=box2 hk3)
  |(go_at_call_of 141 (Value.int .u8 e);refine(Qiw w.heap.size w1.heap.size e ([]++[1]++[2]) w3 he0 he1 hg (Nat.le_trans (Nat.le_trans hzd hb2.size) hb3.size) hI3 (by simp)).mono ?_;rintro ee w4 ⟨rfl,hI4,hb4⟩;have hk4:=hb4.2 _ _ _ hk3 (by decide) hne;obtain⟨i4,i5⟩:=box2 hk4))
 have hz4:w.heap.size≤w4.heap.size:=Nat.le_trans (Nat.le_trans (Nat.le_trans hzd hb2.size) hb3.size) hb4.size;have c:=QA (show Below w.heap.size w w4 from((((hw1.out.trans (Qis hbW hg)).trans (Qis (Qcj (Below.refl W.heap.size W)) (Nat.le_trans hg hbW.size))).trans hb2.1).trans hb3.1).trans hb4.1);clear i0 i1 i2 i3 j0 j1 hk2 hk3 hb2 hb3 hb4 hI2 hI3 hkd hId
 go_wp2_with (first
  |(go_at_call_of 153 (Value.int .u64 s);refine(Qjz w.heap.size w1.heap.size s _ w4 hs0 (by omega) hg hz4 hI4 (by simp)).mono ?_;rintro ee w5 ⟨⟨_,rfl⟩,hI5,hb5⟩)
  |(go_at_call_of 153 (Value.int .u64 n);refine(Qjz w.heap.size w1.heap.size n _ w5 b (by omega) hg (Nat.le_trans hz4 hb5.size) hI5 qq_27).mono ?_;rintro ee w6 ⟨⟨_,rfl⟩,hI6,hb6⟩)
  |(go_at_call 118;refine(Qjd w.heap.size w1.heap.size _ w6 hI6 qq_27).mono ?_;rintro ee w7 ⟨v7,rfl,hR7,hb7⟩;obtain⟨A7,n7,c7,rfl,g,hlc7,hC7⟩:=R8.reads hR7)
  |(go_at_call 138;refine(Qlg A7 n7 c7 _ w7 hC7 qq_27).mono ?_;rintro ee w8 ⟨v8,rfl,hR8,hb8⟩))
 refine bodyPost_ret (results_tmp2 rfl _ _ _) rfl ?_;have hz6:w.heap.size≤w6.heap.size:=Nat.le_trans (Nat.le_trans hz4 hb5.size) hb6.size;have hz7:w.heap.size≤w7.heap.size:=Nat.le_trans hz6 hb7.size;exact⟨v8,rfl,R8.low hR8 hz7,(((c.out.trans hb5.1).trans hb6.1).trans (Qis hb7 hz6)).trans (Qis hb8 hz7)⟩
theorem Qlh(e s n c:Int)(w:World)(hc:Qbl.f e s n=some c)(hn:c≠0) :
  Calls Tryz.prog 90 #[.agg #[.int .u8 e,.int .u32 s],.int .u32 n] w fun ee w'=>∃v0_:Value,ee=.returned (.tuple #[v0_,.int .i64 c])∧R8 w' w.heap.size v0_ []∧Below w.heap.size w w':=by
 have hu:=Tryz.underlying40;have HC:=QA hc;clear hc;have hn1:(c == 0)=false:=by simpa using hn
 have hn2:(c != 0)=true:=by simpa using hn
 have hba:Below w.heap.size w (w.alloc (.cells #[.int .u8 e,.int .u32 s] 40)):=Qci (Below.refl _ _) _
 go_enter Tryz.func90,Tryz.ntmps90
 go_wp2_with (go_at_call 152;refine(Qbl.calls e s n c _ HC.out).mono ?_;rintro ee w1 ⟨rfl,hb1⟩)
 refine bodyPost_ret (results_tmp2 rfl _ _ _) rfl ?_;exact⟨_,rfl,Kd.R_nil _ _ _ _ _,Qcl hba hba.size hb1⟩
theorem Qbh.calls(a0_0 a0_1 a1:Int)(r1:List Int)(r2:Int)(w:World)(h:Qbh.f a0_0 a0_1 a1=some (r1,r2)) :
  Calls Tryz.prog 90 #[.agg #[.int .u8 a0_0,.int .u32 a0_1],.int .u32 a1] w fun e w'=>∃v0_:Value,e=.returned (.tuple #[v0_,.int .i64 r2])∧Kd.R (Kd.int .u8) 5 w' w.heap.size (fun _=>True) v0_ r1∧Below w.heap.size w w':=by
 unfold Qbh.f at h;obtain⟨c,hc,h⟩:=Option.bind_eq_some_iff.mp h
 by_cases h0:c=0
 ·subst h0;rw[if_pos rfl]at h
  by_cases h1:0≤a0_0∧a0_0<256∧0≤a0_1∧a0_1<4294967296∧0≤a1∧a1<4294967296
  ·rw[if_pos h1]at h
   cases h
   exact head_of _ _ _ w hc h1.1 h1.2.1 h1.2.2.1 h1.2.2.2.1 h1.2.2.2.2.1 h1.2.2.2.2.2
  ·rw[if_neg h1]at h;cases h
 ·rw[if_neg h0]at h
  cases h
  exact Qlh _ _ _ _ w hc h0
def Qbp.f(a0_0 a0_1:Int)(l1:List Int)(a2:ByteArray):Option (Int × ByteArray × Int × Int × Int × Int):=if a0_0=12∧a0_1=1∧l1=[]then some (0,⟨#[]⟩,0,0,0,0)else none
theorem Qoh(A:Option Addr)(c:Nat)(key:ByteArray)(cb:Nat)(w:World) :
  Calls Tryz.prog 52 #[.agg #[.int .u8 12,.int .u32 1],.slice A 0 c,.string key,.pointer (some ⟨cb,0,none⟩)] w fun e w'=>e=.returned (.tuple #[.agg #[.bool false,.int .u64 0,.string (⟨#[]⟩:ByteArray),.string (⟨#[]⟩:ByteArray)],.bool false,.int .i64 0])∧Below w.heap.size w w':=by
 have hu:=Tryz.underlying40;have hu2:=Tryz.underlying36;have hb0:Below w.heap.size w ((w.alloc (.cells #[.int .u8 12,.int .u32 1] 40)).alloc (.cells #[.bool false,.int .u64 0,.string (⟨#[]⟩:ByteArray),.string (⟨#[]⟩:ByteArray)] 36)):=Qci (Qci (Below.refl _ _) _) _;have kc:=Qdp (Qdt w (.cells #[.int .u8 12,.int .u32 1] 40)) (.cells #[.bool false,.int .u64 0,.string (⟨#[]⟩:ByteArray),.string (⟨#[]⟩:ByteArray)] 36);have kr:=Qdt (w.alloc (.cells #[.int .u8 12,.int .u32 1] 40)) (.cells #[.bool false,.int .u64 0,.string (⟨#[]⟩:ByteArray),.string (⟨#[]⟩:ByteArray)] 36);rw[World.size_alloc]at kr;obtain⟨c0,c1⟩:=box2 kc;have HK:=QA kc;have KR:=QA kr;have a:=QA hb0;have HC:=QA (show Qap.f 12 1 0=some (0,0)by kernel_rfl);have HS:=QA (show Qaq.f 12 1=some 4096 by kernel_rfl);clear kc kr hb0
 go_enter Tryz.func52,Tryz.ntmps52
 go_wp2_with (first
  |(go_at_call 66;refine(Qap.calls _ _ _ _ _ _ HC.out).mono ?_;rintro ee w1 ⟨rfl,hb1⟩;have b:=QA (a.out.trans (Qis hb1 a.out.size));have HK1:=QA (Qds HK.out hb1);have KR1:=QA (Qds KR.out hb1);clear hb1 c0 c1;obtain⟨c0,c1⟩:=box2 HK1.out)
  |(go_at_call 57;refine(Qaq.calls _ _ _ _ HS.out).mono ?_;rintro ee w2 ⟨rfl,hb2⟩;have d:=QA (b.out.trans (Qis hb2 b.out.size));have KR2:=QA (Qds KR1.out hb2);clear hb2))
 go_loopw [14] (fun g wr=>g=.int .i64 (-1)∧wr=w2) (fun _ _=>0)
 case atStart=>exact⟨rfl,rfl⟩
 case round =>
  obtain⟨rfl,rfl⟩:=hrel;obtain⟨d0,d1,d2,d3⟩:=box4 KR2.out;have f0:=Qdg KR2.out 0;have f1:=Qdg KR2.out 1;have f2:=Qdg KR2.out 2;have f3:=Qdg KR2.out 3;go_wp2;have hs:w.heap.size≤w.heap.size+1:=Nat.le_succ _;refine bodyPost_ret (Qdv rfl _ _ (w.heap.size+1) 36 #[.bool false,.int .u64 0,.string (⟨#[]⟩:ByteArray),.string (⟨#[]⟩:ByteArray)] (0,0) _ rfl (Qdc (Qdc (Qdc (Qdc KR2.out 0 _) 1 _) 2 _) 3 _) hu2 rfl qq_5) rfl ?_;exact⟨rfl,Qir (Qir (Qir (Qir d.out hs) hs) hs) hs⟩
theorem box3c{W:World}{B:Nat}{x y z:Int}(h:W.heap[B]? = some (.cells #[.int .i64 x,.int .i64 y,.int .i64 z] 65 (0,0))) :
  (W.cell? ⟨B,0,none⟩=some (.int .i64 x)∧W.cell? ⟨B,1,none⟩=some (.int .i64 y)∧W.cell? ⟨B,2,none⟩=some (.int .i64 z))∧W.frozen? ⟨B,0,none⟩=false∧W.frozen? ⟨B,1,none⟩=false∧W.frozen? ⟨B,2,none⟩=false :=
 ⟨⟨(Qdf h 0).trans rfl,(Qdf h 1).trans rfl,(Qdf h 2).trans rfl⟩,Qdg h 0,Qdg h 1,Qdg h 2⟩
theorem Qoi(A:Option Addr)(c:Nat)(key:ByteArray)(w:World) :
  Calls Tryz.prog 24 #[.agg #[.int .u8 12,.int .u32 1],.slice A 0 c,.string key] w fun e w'=>e=.returned (.tuple #[.int .i64 0,.string (⟨#[]⟩:ByteArray),.agg #[.int .i64 0,.int .i64 0,.int .i64 0],.int .i64 0])∧Below w.heap.size w w':=by
 have hu:=Tryz.underlying40;have hu2:=Tryz.underlying36;have hu3:=Tryz.underlying65;have kc0:=Qdp (Qdp (Qdt w (.cells #[.int .u8 12,.int .u32 1] 40)) (.cells #[.int .i64 0,.int .i64 0,.int .i64 0] 65)) (.cells #[.int .i64 0,.int .i64 0,.int .i64 0] 65);have k1:=Qdp (Qdt (w.alloc (.cells #[.int .u8 12,.int .u32 1] 40)) (.cells #[.int .i64 0,.int .i64 0,.int .i64 0] 65)) (.cells #[.int .i64 0,.int .i64 0,.int .i64 0] 65);have k2:=Qdt ((w.alloc (.cells #[.int .u8 12,.int .u32 1] 40)).alloc (.cells #[.int .i64 0,.int .i64 0,.int .i64 0] 65)) (.cells #[.int .i64 0,.int .i64 0,.int .i64 0] 65);rw[World.size_alloc]at k1 k2;rw[World.size_alloc]at k2;have hb0:Below w.heap.size w (((w.alloc (.cells #[.int .u8 12,.int .u32 1] 40)).alloc (.cells #[.int .i64 0,.int .i64 0,.int .i64 0] 65)).alloc (.cells #[.int .i64 0,.int .i64 0,.int .i64 0] 65)):=Qci (Qci (Qci (Below.refl _ _) _) _) _;obtain⟨c0,c1⟩:=box2 kc0;have K1:=QA k1;have K2:=QA k2;have a:=QA hb0;clear kc0 k1 k2 hb0
 go_enter Tryz.func24,Tryz.ntmps24
 go_wp2_with (go_at_call 52;refine(Qoh A c key _ _).mono ?_;rintro ee w1 ⟨rfl,hb1⟩;have b:=QA (a.out.trans (Qis hb1 a.out.size));have L1:=QA (Qds K1.out hb1);have L2:=QA (Qds K2.out hb1);clear hb1)
 obtain⟨W,hW⟩:∃W,W=w1.alloc (.cells #[.bool false,.int .u64 0,.string (⟨#[]⟩:ByteArray),.string (⟨#[]⟩:ByteArray)] 36):=⟨_,rfl⟩;have M1:Aside0 (W.heap[w.heap.size+1]? = some (.cells #[.int .i64 0,.int .i64 0,.int .i64 0] 65 (0,0))):=⟨by rw[hW];exact Qdp L1.out _⟩;have M2:Aside0 (W.heap[w.heap.size+1+1]? = some (.cells #[.int .i64 0,.int .i64 0,.int .i64 0] 65 (0,0))):=⟨by rw[hW];exact Qdp L2.out _⟩;have d:Aside0 (Below w.heap.size w W):=⟨by rw[hW];exact b.out.trans (Qis (Qci (Below.refl _ _) _) b.out.size)⟩;rw[← hW];clear hW c0 c1;obtain⟨⟨a0,a1,a2⟩,f0,f1,f2⟩:=box3c M1.out;obtain⟨⟨b0,b1,b2⟩,_,_,_⟩:=box3c M2.out;have hne:w.heap.size+1+1≠w.heap.size+1:=by omega
 have n1:((((W.setCell ⟨w.heap.size+1,0,none⟩ (.int .i64 0)).setCell ⟨w.heap.size+1,1,none⟩ (.int .i64 0)).setCell ⟨w.heap.size+1,2,none⟩ (.int .i64 0)).drew).heap[w.heap.size+1]? = some (.cells #[.int .i64 0,.int .i64 0,.int .i64 0] 65 (0,0)):=Qdc (Qdc (Qdc M1.out 0 _) 1 _) 2 _;have n2:((((W.setCell ⟨w.heap.size+1,0,none⟩ (.int .i64 0)).setCell ⟨w.heap.size+1,1,none⟩ (.int .i64 0)).setCell ⟨w.heap.size+1,2,none⟩ (.int .i64 0)).drew).heap[w.heap.size+1+1]? = some (.cells #[.int .i64 0,.int .i64 0,.int .i64 0] 65 (0,0)):=Qdd (p:=⟨w.heap.size+1,2,none⟩) (Qdd (p:=⟨w.heap.size+1,1,none⟩) (Qdd (p:=⟨w.heap.size+1,0,none⟩) M2.out hne _) hne _) hne _;have hs:w.heap.size≤w.heap.size+1:=Nat.le_succ _;have hbf:Below w.heap.size w ((((W.setCell ⟨w.heap.size+1,0,none⟩ (.int .i64 0)).setCell ⟨w.heap.size+1,1,none⟩ (.int .i64 0)).setCell ⟨w.heap.size+1,2,none⟩ (.int .i64 0)).drew):=Qcj (Qir (Qir (Qir d.out hs) hs) hs);have N1:=QA n1;have N2:=QA n2;have HBF:=QA hbf;clear n1 n2 hbf hne
 go_region_held3 (fun w'=>w'.cell? ⟨w.heap.size+1+1,0,none⟩=some (.int .i64 0)∧w'.cell? ⟨w.heap.size+1+1,1,none⟩=some (.int .i64 0)∧w'.cell? ⟨w.heap.size+1+1,2,none⟩=some (.int .i64 0)) (first|exact⟨b0,b1,b2⟩|exact⟨(Qdf N2.out 0).trans rfl,(Qdf N2.out 1).trans rfl,(Qdf N2.out 2).trans rfl⟩) (fail)
 go_wp2;refine bodyPost_ret (Qfg (rs:=[.tmp 6,.tmp 7,.cell 8 65,.tmp 9]) rfl (by simp) (.tmp (.tmp (.cell (w.heap.size+1) 65 #[.int .i64 0,.int .i64 0,.int .i64 0] (0,0) _ rfl N1.out hu3 rfl qq_5 (.tmp .nil))))) rfl ?_;exact⟨rfl,HBF.out⟩
theorem Qbp.calls(a0_0 a0_1:Int)(A1:Option Addr)(c1:Nat)(l1:List Int)(a2:ByteArray)(r1:Int)(r2:ByteArray)(r3 r4 r5 r6:Int)(w:World)(hr1:Kd.C (Kd.int .u8) w A1 l1.length l1)(hc1:l1.length≤c1)(h:Qbp.f a0_0 a0_1 l1 a2=some (r1,r2,r3,r4,r5,r6)) :
  Calls Tryz.prog 24 #[.agg #[.int .u8 a0_0,.int .u32 a0_1],.slice A1 l1.length c1,.string a2] w fun e w'=>e=.returned (.tuple #[.int .i64 r1,.string r2,.agg #[.int .i64 r3,.int .i64 r4,.int .i64 r5],.int .i64 r6])∧Below w.heap.size w w':=by
 unfold Qbp.f at h
 by_cases hc:a0_0=12∧a0_1=1∧l1=[]
 ·rw[if_pos hc]at h;obtain⟨rfl,rfl,rfl⟩:=hc;simp only[Option.some.injEq,Prod.mk.injEq]at h;obtain⟨rfl,rfl,rfl,rfl,rfl,rfl⟩:=h;exact Qoi A1 c1 a2 w
 ·rw[if_neg hc]at h
  cases h
end Go.Proofs.YtepkfjmjidjedaaGreat.C
end
section
namespace Go.Proofs.YtepkfjmjidjedaaGreat.C
open Go.RowKit Go.Proofs.YtepkfjmjidjedaaGreatW.PrintWords Go.Proofs.YtepkfjmjidjedaaGreatW.PrintLast Go.Proofs.YtepkfjmjidjedaaGreatW.PrintMore
attribute [local go_sem] Qho Qhp Qhq Qhr Qhs Qht Qhu Qhv
def Qbi.f(a0_0:Bool)(a0_1:Int)(a0_2:ByteArray)(a0_3:ByteArray):Option (List Int × Int):=(Qbw.f a0_0 a0_1 a0_2 a0_3).bind fun bt111=>(if bt111.2=0 then((Qbj.f bt111.1).bind fun t115=>(some (t115,0)))else(some (([]:List Int),bt111.2)))
theorem Qbi.calls(b:Bool)(c:Int)(d:ByteArray)(j:ByteArray)(r1:List Int)(r2:Int)(w:World)(h:Qbi.f b c d j=some (r1,r2)) :
  Calls Tryz.prog 84 #[.agg #[.bool b,.int .u64 c,.string d,.string j]] w fun e w'=>∃u:Value,e=.returned (.tuple #[u,.int .i64 r2])∧Kd.R (Kd.int .u8) 5 w' w.heap.size (fun _=>True) u r1∧Below w.heap.size w w':=by
 have hu36:=Tryz.underlying36;have HB:=QA (Below.refl w.heap.size w);have H:((Qbw.f b c d j).bind fun bt111=>(if bt111.2=0 then((Qbj.f bt111.1).bind fun p=>(some (p,0)))else(some (([]:List Int),bt111.2))))=some (r1,r2):=h;clear h;replace H:=Option.bind_eq_some_iff.mp H;obtain⟨⟨q,l⟩,v,H⟩:=H;replace H:(if l=0 then((Qbj.f q).bind fun p=>(some (p,0)))else(some (([]:List Int),l)))=some (r1,r2):=H;have A2:=QA v;clear v
 by_cases c3:l=0
 ·rw[if_pos c3]at H;have y:(l == 0)=true:=beq_iff_eq.mpr c3;have z:(l != 0)=false:=bne_eq_false_iff_eq.mpr c3;clear c3;replace H:=Option.bind_eq_some_iff.mp H;obtain⟨p,x,H⟩:=H;have A4:=QA x;clear x;simp only[Option.some.injEq,Prod.mk.injEq]at H;obtain⟨rfl,rfl⟩:=H
  go_enter Tryz.func84,Tryz.ntmps84
  go_wp2_with (first |((with_reducible refine Qfc (N:=1) rfl ?_);refine qq_e 1 #[.bool b,.int .u64 c,.string d,.string j] 36 ?_;intro k hg w5 hbox hb;have n_:=qn4 (Qes qq_b hb) (hbox) (qq_s hg:w.heap.size≤k) (qq_s hg:w.heap.size≤k);clear HB;obtain⟨HB,a,r,s⟩:=n_;clear hb hbox hg;obtain⟨I,J,L,M⟩:=qc4 a.out;have P:=Qdg a.out) |((with_reducible refine Qhw (f:=137) rfl ?_);refine Qfz (some 8) rfl rfl Tryz.func137 qq_5 rfl #[.agg #[.bool b,.int .u64 c,.string d,.string j]] rfl qq_1 ?_;(with_reducible refine(Qbw.calls b c d j q l _ A2.out).mono ?_);rintro e w7 ⟨A,rfl,n,hb⟩;refine⟨_,rfl,?_⟩;have n_:=qn3 (Kd.R_lower n (Qer qq_b)) (Qds (g:=k) (o:=.cells #[.bool b,.int .u64 c,.string d,.string j] 36 (0,0)) qq_0 hb) (Qes qq_b hb);clear a HB;obtain⟨m,a,HB⟩:=n_;(try clear hb);(try clear hb2);(try clear hk);(try clear hi);(try clear n);obtain⟨Ao8,co8,eo8⟩:=Kd.R_slice m.out;subst eo8) |((with_reducible refine Qhw (f:=138) rfl ?_);refine Qfz (some 15) rfl rfl Tryz.func138 qq_5 rfl #[.slice Ao8 q.length co8] rfl qq_1 ?_;(with_reducible refine(Qbj.calls _ _ q p _ ?side1 ?side2 A4.out).mono ?_);(case side1=>repeat(first|exact(Kd.R_reads' m.out).2.2 |(with_reducible refine Kd.C_alloc ?_ _) |(with_reducible refine Kd.C_drewN ?_ _) |(with_reducible refine Kd.C_drew ?_)));(case side2=>exact(Kd.R_reads' m.out).2.1);rintro e w9 ⟨T,rfl,n,hb⟩;refine⟨_,rfl,?_⟩;have n_:=qn4 (Kd.R_elder' qq_9 (Kd.R_base n) hb) (Kd.R_lower (Kd.R_new' n (Kd.R_lt qq_9)) (Qer qq_b)) (Qds (g:=k) (o:=.cells #[.bool b,.int .u64 c,.string d,.string j] 36 (0,0)) qq_0 hb) (Qes qq_b hb);clear m a HB;obtain⟨m,t,a,HB⟩:=n_;(try clear hb);(try clear hb2);(try clear hk);(try clear hi);(try clear n)))
  go_ret2
  exact⟨_,by first|rfl |(simp[Qib,Qic]<;>rfl) |(simp[*,Qib,Qic]<;>rfl),by(with_reducible repeat(first|apply Kd.R_alloc|apply Kd.R_drewN|apply Kd.R_drew));exact Kd.R_mono t.out (fun _ hk=>trivial),qq_b⟩
 ·rw[if_neg c3]at H;have y:(l == 0)=false:=beq_eq_false_iff_ne.mpr c3;have z:(l != 0)=true:=bne_iff_ne.mpr c3;simp only[Option.some.injEq,Prod.mk.injEq]at H;obtain⟨rfl,rfl⟩:=H
  go_enter Tryz.func84,Tryz.ntmps84
  go_wp2_with (first |((with_reducible refine Qfc (N:=1) rfl ?_);refine qq_e 1 #[.bool b,.int .u64 c,.string d,.string j] 36 ?_;intro k hg U hbox hb;have n_:=qn4 (Qes qq_b hb) (hbox) (qq_s hg:w.heap.size≤k) (qq_s hg:w.heap.size≤k);clear HB;obtain⟨HB,a,r,s⟩:=n_;clear hb hbox hg;obtain⟨B,D,E,G⟩:=qc4 a.out;have O:=Qdg a.out) |((with_reducible refine Qhw (f:=137) rfl ?_);refine Qfz (some 8) rfl rfl Tryz.func137 qq_5 rfl #[.agg #[.bool b,.int .u64 c,.string d,.string j]] rfl qq_1 ?_;(with_reducible refine(Qbw.calls b c d j q l _ A2.out).mono ?_);rintro e W ⟨A,rfl,n,hb⟩;refine⟨_,rfl,?_⟩;have n_:=qn3 (Kd.R_lower n (Qer qq_b)) (Qds (g:=k) (o:=.cells #[.bool b,.int .u64 c,.string d,.string j] 36 (0,0)) qq_0 hb) (Qes qq_b hb);clear a HB;obtain⟨m,a,HB⟩:=n_;(try clear hb);(try clear hb2);(try clear hk);(try clear hi);(try clear n)))
  go_ret2
  exact⟨_,by first|rfl |(simp[Qib,Qic]<;>rfl) |(simp[*,Qib,Qic]<;>rfl),by first|exact Kd.R_nil _ _ _ _ _|exact Kd.N_nil _ _ _ _ _|exact Kd.V_nil _ _ _ _ _|exact Kd.Q_nil _ _ _ _ _|exact Kd.S_nil _ _ _ _ _,qq_b⟩
end Go.Proofs.YtepkfjmjidjedaaGreat.C
end
