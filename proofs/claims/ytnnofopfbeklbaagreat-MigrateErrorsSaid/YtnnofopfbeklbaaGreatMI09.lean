/- Texts of this claim's author and of the print of its functions, merged by merge.py. -/
import Derived.Test.YtnnofopfbeklbaaGreatMI02
import Derived.Lib.IndexLaws
import Derived.Deep.RegionLaw
import Derived.Test.YtnnofopfbeklbaaGreatMI06
import Derived.Test.YtnnofopfbeklbaaGreatMI07
import Derived.Test.YtnnofopfbeklbaaGreatMI03
set_option linter.unusedVariables false
set_option linter.unusedSimpArgs false
set_option maxHeartbeats 8000000
set_option maxRecDepth 100000
section
namespace Go.Proofs.YtnnofopfbeklbaaGreat.C
open Go.RowKit Go.Proofs.YtnnofopfbeklbaaGreatW.PrintWords Go.Proofs.YtnnofopfbeklbaaGreatW.PrintLast Go.Proofs.YtnnofopfbeklbaaGreatW.PrintMore
attribute [local go_sem] Qgv Qgw Qgx Qgy
theorem Qiu:∃i,Tryz.prog.info? 5=some i∧i.size=1∧i.zero=some (.int .u8 0)∧i.bytes=1:=by
 have h:=Qhj
 cases hh:Tryz.prog.info? 5 with
 | none=>rw[hh]at h;cases h
 | some i =>
  rw[hh]at h
  simp only[Option.map_some,Option.some.injEq,Prod.mk.injEq]at h
  exact⟨i,rfl,h.2.1,h.1,h.2.2⟩
theorem Qiv(A:Option Addr)(n c m:Nat)(j:Int)(hj:j=(m:Int))(hm:m≤n)(hc:n≤c) :
  ∃(A':Option Addr) (n' c':Nat),n'=n-m∧n'≤c'∧(∀W:World,(Instr.slice 52 (.slice A n c) (some (.int .i64 j)) none none).run Tryz.prog W=.ok (.slice A' n' c') W) ∧
   ∀(W:World) (xs:List Int),Kd.C (Kd.int .u8) W A n xs→Kd.C (Kd.int .u8) W A' n' (xs.drop m):=by
 subst hj
 obtain⟨i,hi,hsz,_⟩:=Qiu
 refine⟨if c=m then A else A.map (·.add (m*1)),n-m,c-m,rfl,by omega,fun W=>?_,fun W xs hq=>?_⟩
 ·have h:=Qdq (P:=Tryz.prog) 52 5 .i64 Tryz.underlying52 hi 1 hsz A n c (m:Int) (by omega) (by omega) W
  rw[Int.toNat_natCast]at h
  exact h
 ·have hl:=hq.1
  subst hl
  have h:=Kd.C_drop hq hm hc
  rw[List.length_drop]at h
  exact h
theorem c8_to(A:Option Addr)(n c m:Nat)(j:Int)(hj:j=(m:Int))(hm:m≤n)(hc:n≤c) :
  ∃(n':Nat),n'=m∧n'≤c∧(∀W:World,(Instr.slice 52 (.slice A n c) none (some (.int .i64 j)) none).run Tryz.prog W=.ok (.slice A n' c) W) ∧
   ∀(W:World) (xs:List Int),Kd.C (Kd.int .u8) W A n xs→Kd.C (Kd.int .u8) W A n' (xs.take m):=by
 subst hj
 obtain⟨i,hi,hsz,_⟩:=Qiu
 refine⟨m,rfl,by omega,fun W=>?_,fun W xs hq=>?_⟩
 ·have h:=cut_to (P:=Tryz.prog) 52 5 .i64 Tryz.underlying52 hi A n c (m:Int) (by omega) (by omega) hc W
  rw[Int.toNat_natCast]at h
  exact h
 ·have hl:=hq.1
  subst hl
  have h:=Kd.C_take hq hm
  rw[List.length_take,Nat.min_eq_left hm]at h
  exact h
theorem ix_at{W:World}{A:Option Addr}{n c:Nat}{l:List Int}(v:Int)(hC:Kd.C (Kd.int .u8) W A n l)(hc:n≤c) :
  Calls Tryz.prog 80 #[.slice A n c,.int .u8 v] W fun e w'=>e=.returned (.int .i64 (ixOf l v))∧Drawn0 W w':=by
 have hl:=hC.1
 subst hl
 exact Qae.calls A c l v _ W hC hc rfl
theorem Qiw(l:List Int)(c:Int):-1≤ixOf l c∧ixOf l c<l.length:=by
 unfold ixOf
 refine⟨Lib.indexByte_ge _ _,?_⟩
 rcases Int.lt_or_le (Lib.indexByte (Lib.bytesOf l) c.toNat.toUInt8) 0 with h|h
 ·omega
 ·obtain⟨o,ho⟩:=Int.eq_ofNat_of_zero_le h
  have h1:=(Lib.indexByte_some (o:=o) ho).1
  have h2:=(List.getElem?_eq_some_iff.1 h1).1
  have h3:(Lib.bytesOf l).length=l.length:=by simp[Lib.bytesOf]
  omega
theorem R8.cap(W:World)(cs:Array Value)(cap:Nat)(hsz:cs.size=cap*1)(hm:cap≤maxLen):R8 (W.alloc (.cells cs 5)) W.heap.size (.slice (some ⟨W.heap.size,0,none⟩) 0 cap) [] :=
 Kd.R_of_own ⟨by simp[encs],.inr ⟨W.heap.size,cap,cs,rfl,Nat.le_refl _,heap_alloc_new W _,Nat.zero_le _,hm,hsz,by simp[encs]⟩⟩ (fun _ _=>trivial)
def Qix:Nat→List Int→List Int
 | 0,_=>[]
 | k+1,b =>
  if 0≤ixOf (b.take 254) 0 then((ixOf (b.take 254) 0+1)%256) :: (b.take (ixOf (b.take 254) 0).toNat++Qix k (b.drop ((ixOf (b.take 254) 0).toNat+1)))
  else if 254<b.length then 255 :: (b.take 254++Qix k (b.drop 254))
  else(((b.length:Int)+1)%256) :: b
def Qiy(b:List Int):List Int:=Qix (b.length+1) b
theorem Qiz:∀(k:Nat) (b:List Int),b.length<k→∀j,Qix (k+j) b=Qix k b
 | 0,b,h,_=>by omega
 | k+1,b,h,j=>by
  rw[show k+1+j=(k+j)+1 by omega]
  unfold Qix
  split
  ·rename_i h0
   have h1:=(Qiw (b.take 254) 0).2
   rw[List.length_take]at h1
   rw[Qiz k _ qq_12 j]
  ·split
   ·rw[Qiz k _ qq_12 j]
   ·rfl
theorem Qja(k:Nat)(b:List Int)(h:b.length<k):Qix k b=Qiy b:=by
 have e:=Qiz (b.length+1) b (by omega) (k-(b.length+1))
 rw[show b.length+1+(k-(b.length+1))=k by omega]at e
 exact e
theorem Qjb{b:List Int}{p:Nat}(h:ixOf (b.take 254) 0=(p:Int)):Qiy b=(((p:Int)+1)%256) :: (b.take p++Qiy (b.drop (p+1))):=by
 have h1:=(Qiw (b.take 254) 0).2
 rw[List.length_take]at h1
 have hp:p<b.length:=by omega
 rw[Qiy,Qix,if_pos (by omega),h,Int.toNat_natCast,Qja _ _ qq_12]
theorem Qjc{b:List Int}(h:ixOf (b.take 254) 0<0)(hl:254<b.length):Qiy b=255 :: (b.take 254++Qiy (b.drop 254)):=by
 rw[Qiy,Qix,if_neg (by omega),if_pos hl,Qja _ _ qq_12]
theorem Qjd{b:List Int}(h:ixOf (b.take 254) 0<0)(hl:¬254<b.length):Qiy b=(((b.length:Int)+1)%256) :: b:=by
 rw[Qiy,Qix,if_neg (by omega),if_neg hl]
def most(n:Nat):Nat:=if n=0 then 1 else n+1+(n-1)/254
theorem most_is(n:Nat)(h:n≤140737488355328):Qak.f (n:Int)=some (most n:Int):=by
 unfold Qak.f most
 by_cases h0:n=0
 ·subst h0;rfl
 ·rw[if_neg (by omega),if_neg h0]
  have e1:wrap64 ((n:Int)-1)=(n:Int)-1:=by unfold wrap64;omega
  have e2:wrap64 ((n:Int)+1)=(n:Int)+1:=by unfold wrap64;omega
  rw[e1,e2]
  have e3:Int.tdiv ((n:Int)-1) 254=(((n-1)/254:Nat):Int):=by
   rw[show(n:Int)-1=((n-1:Nat):Int)by omega]
   rfl
  rw[e3]
  have e4:wrap64 (((n-1)/254:Nat):Int)=(((n-1)/254:Nat):Int):=by unfold wrap64;omega
  rw[e4]
  have e5:wrap64 ((n:Int)+1+(((n-1)/254:Nat):Int))=(n:Int)+1+(((n-1)/254:Nat):Int):=by unfold wrap64;omega
  rw[e5]
  simp
theorem Qje(A0:Option Addr)(c0:Nat)(l0:List Int)(w:World)(hr0:Kd.C (Kd.int .u8) w A0 l0.length l0)(hc0:l0.length≤c0)(hl:l0.length≤35184372088832) :
  Calls Tryz.prog 152 #[.slice A0 l0.length c0] w fun e w'=>∃v0_:Value,e=.returned (v0_)∧R8 w' w.heap.size v0_ (Qiy l0)∧Below w.heap.size w w':=by
 obtain⟨i8,hi8,hs8,hz8,hb8⟩:=Qiu
 have hmost:most l0.length≤140737488355328:=by unfold most;split<;>omega
 have hrun:=fun W=>run_make (P:=Tryz.prog) W 52 5 i8 (.int .u8 0) Tryz.underlying52 hi8 hz8 .i64 .i64 0 (most l0.length:Int) (by omega) (by omega) (by rw[hb8];omega) (by omega)
 simp only[hs8]at hrun
 have HC0:=QA hr0
 clear hr0
 go_enter Tryz.func152,Tryz.ntmps152
 go_wp2_with (first |(go_at_call 197;refine(Qak.calls _ _ _ (most_is l0.length (by omega))).mono ?_;rintro e w' ⟨rfl,hd⟩;obtain⟨q,rfl⟩:=hd.out;clear hd))
 obtain⟨W0,hW0⟩:∃W0,W0=(w.drewN q).alloc (.cells (madeCells #[.int .u8 0] (most l0.length)) 5):=⟨_,rfl⟩
 have HR0:=QA (show R8 W0 w.heap.size (.slice (some ⟨w.heap.size,0,none⟩) 0 (most l0.length)) []by rw[hW0];exact R8.cap (w.drewN q) _ _ (by simp[madeCells]) (by unfold maxLen;omega))
 have HB0:=QA (show Below w.heap.size w W0 by rw[hW0];exact Qbz (Qby (Below.refl _ _) q) (Nat.le_refl _) (Qbw (Below.refl _ _) _))
 rw[← hW0]
 clear hW0 hrun
 go_loopw [0,3,4,24,41] (fun v0 v3 v4 v24 v41 wr=>∃(l' out:List Int) (A:Option Addr) (n c:Nat),v0=.slice A n c∧n≤c∧Aside0 (n=l'.length)∧n≤l0.length∧out.length+2*n≤2*l0.length∧Aside0 (Qiy l0=out++Qiy l')∧Aside0 (Kd.C (Kd.int .u8) w A n l')∧Aside0 (R8 wr w.heap.size v3 out)∧Aside0 (Below w.heap.size w wr))
  (fun v0 _ _ _ _ _=>lenV v0)
 case atStart=>exact⟨l0,[],A0,l0.length,c0,rfl,hc0,⟨rfl⟩,Nat.le_refl _,by simp,⟨rfl⟩,HC0,HR0,HB0⟩
 case round =>
  obtain⟨l',out,A,n,c,rfl,hnc,HN,hn0,hout,HS,HC,HR,HB⟩:=hrel
  clear HR0 HB0
  obtain⟨x,hx⟩:∃x,x=ixOf (l'.take 254) 0:=⟨_,rfl⟩
  have hxr:=Qiw (l'.take 254) 0
  rw[← hx]at hxr
  have hlt:=HN.out
  have hx1:x<(n:Int)∧x<254:=by have:=hxr.2;rw[List.length_take]at this;omega
  have hx0:=hxr.1
  have HX:=QA hx
  clear hxr hlt hx
  obtain⟨m,hm,hC1,hmc⟩:∃m,(m=if 254<n then 254 else n)∧Aside0 (Kd.C (Kd.int .u8) w A m (l'.take 254))∧m≤c:=by
   by_cases h:254<n
   ·refine⟨254,by rw[if_pos h],⟨?_⟩,by omega⟩
    have h1:=HC.out
    rw[HN.out]at h1
    have h2:=Kd.C_take h1 (m:=254) qq_11
    rw[List.length_take,Nat.min_eq_left qq_11]at h2
    exact h2
   ·refine⟨n,by rw[if_neg h],⟨?_⟩,hnc⟩
    rw[List.take_of_length_le qq_11]
    exact HC.out
  have HM:=QA hm
  by_cases hxz:0≤x
  ·obtain⟨p,rfl⟩:=Int.eq_ofNat_of_zero_le hxz
   have hpn:(p:Int)≤(n:Int):=by omega
   have hp8:p<254:=by omega
   have hwp:IntKind.i64.wrap ((p:Int)+1)=(p:Int)+1:=IntWalk.i64_in _ (by omega)
   have hCp:=QA (show Kd.C (Kd.int .u8) w A p (l'.take p)by
    have h1:=HC.out
    rw[HN.out]at h1
    have h2:=Kd.C_take h1 (m:=p) qq_11
    rw[List.length_take,Nat.min_eq_left qq_11]at h2
    exact h2)
   obtain⟨p',hp',_,hcutp,_⟩:=c8_to A n c p p rfl (by omega) hnc
   subst hp'
   obtain⟨A4,n4,c4,hn4,hnc4,hcut4,hC4⟩:=Qiv A n c (p'+1) ((p':Int)+1) (by omega) (by omega) hnc
   have HN4:=QA hn4
   have hn4n:n4<n:=by omega
   clear hn4
   by_cases hbig:254<n
   all_goals first|rw[if_pos hbig]at hm|rw[if_neg hbig]at hm
   all_goals
    subst hm
    go_wp2_with (first |(go_at_call 80;refine(ix_at 0 (Kd.C_below hC1.out HB.out) hmc).mono ?_;rw[← HX.out];rintro e w2 ⟨rfl,hd⟩;obtain⟨q2,rfl⟩:=hd.out;clear hd))
    obtain⟨W,hW⟩:∃W,W=(wr.drewN q2).drew:=⟨_,rfl⟩
    go_region_law (first
     |(refine Kd.R_append_step (Kd.int .u8) (w0:=w) w.heap.size (by rfl) (.tmp 27) (.tmp 31) 52 5 (.int .u8 0) 1 rfl Tryz.underlying52 Qhj rfl (by decide) (by omega) u3 out (((p':Int)+1)%256) [.int .u8 (((p':Int)+1)%256)] (fun _=>True) (fun _=>False) rfl ?ax ?aP (fun _ hk=>hk.elim) (fun _ _=>trivial) ?aO ?aB ?aS ?aL ?_;(case ax=>rfl);(case aP=>rfl);(case aO=>exact Kd.R_drew (Kd.R_drewN HR.out q2));(case aB=>exact Qbx (Qby HB.out q2));(case aS=>exact HB.out.size);(case aL=>omega);intro v1 w1 HR1 hb1 hg1 hat1)
     |(refine Kd.R_append_rows_step (Kd.int .u8) (Rr:=fun x cs=>cs=[.int .u8 x]) (w0:=w) w.heap.size (by rfl) (.tmp 32) (.tmp 35) 52 5 (.int .u8 0) 1 rfl Tryz.underlying52 Qhj rfl (by decide) (by omega) v1 (out++[((p':Int)+1)%256]) (l'.take p') A p' c (fun _=>True) (fun _=>False) rfl rfl HR1 ?bR (fun _ _ h=>h) (fun _ hk=>hk.elim) (fun _ _=>trivial) hb1 hb1.size ?bL ?_;(case bR=>exact Kd.C_below hCp.out hb1);(case bL=>simp;omega);intro v2 w2 HR2 hb2 hg2 hat2))
    all_goals
     have HR2':=QA HR2
     have HB2':=QA hb2
     clear HR1 hb1 hg1 hat1 HR2 hb2 hg2 hat2
     go_wp2_with fail
     go_roundw
     case rel=>exact⟨l'.drop (p'+1),out++[((p':Int)+1)%256]++l'.take p',A4,n4,c4,rfl,hnc4,⟨by rw[List.length_drop];have:=HN4.out;have:=HN.out;omega⟩,by omega,by
       have:=HN.out
       have:=HN4.out
       simp only[List.length_append,List.length_singleton,List.length_take]
       omega,⟨by
       rw[HS.out,Qjb HX.out.symm]
       simp⟩,⟨hC4 _ _ HC.out⟩,HR2',HB2'⟩
     case measure=>simp[lenV];omega
  ·have hxm:x=-1:=by omega
   subst hxm
   have hix:ixOf (l'.take 254) 0<0:=by have:=HX.out;omega
   have HIX:=QA hix
   clear hix
   by_cases hbig:254<n
   ·rw [if_pos hbig]at hm
    subst hm
    have hbi:(254:Int)<(n:Int):=by omega
    obtain⟨p',hp',_,hcutp,_⟩:=c8_to A n c 254 254 rfl (by omega) hnc
    subst hp'
    obtain⟨A4,n4,c4,hn4,hnc4,hcut4,hC4⟩:=Qiv A n c 254 254 rfl (by omega) hnc
    have HN4:=QA hn4
    have hn4n:n4<n:=by omega
    clear hn4
    go_wp2_with (first |(go_at_call 80;refine(ix_at 0 (Kd.C_below hC1.out HB.out) hmc).mono ?_;rw[← HX.out];rintro e w2 ⟨rfl,hd⟩;obtain⟨q2,rfl⟩:=hd.out;clear hd))
    go_region_law (first
     |(refine Kd.R_append_step (Kd.int .u8) (w0:=w) w.heap.size (by rfl) (.tmp 45) (.tmp 46) 52 5 (.int .u8 0) 1 rfl Tryz.underlying52 Qhj rfl (by decide) (by omega) u3 out 255 [.int .u8 255] (fun _=>True) (fun _=>False) rfl ?ax ?aP (fun _ hk=>hk.elim) (fun _ _=>trivial) ?aO ?aB ?aS ?aL ?_;(case ax=>rfl);(case aP=>rfl);(case aO=>exact Kd.R_drew (Kd.R_drewN HR.out q2));(case aB=>exact Qbx (Qby HB.out q2));(case aS=>exact HB.out.size);(case aL=>omega);intro v1 w1 HR1 hb1 hg1 hat1)
     |(refine Kd.R_append_rows_step (Kd.int .u8) (Rr:=fun x cs=>cs=[.int .u8 x]) (w0:=w) w.heap.size (by rfl) (.tmp 47) (.tmp 49) 52 5 (.int .u8 0) 1 rfl Tryz.underlying52 Qhj rfl (by decide) (by omega) v1 (out++[255]) (l'.take 254) A 254 c (fun _=>True) (fun _=>False) rfl rfl HR1 ?bR (fun _ _ h=>h) (fun _ hk=>hk.elim) (fun _ _=>trivial) hb1 hb1.size ?bL ?_;(case bR=>exact Kd.C_below hC1.out hb1);(case bL=>simp;omega);intro v2 w2 HR2 hb2 hg2 hat2))
    all_goals
     have HR2':=QA HR2
     have HB2':=QA hb2
     clear HR1 hb1 hg1 hat1 HR2 hb2 hg2 hat2
     go_wp2_with fail
     go_roundw
     case rel=>exact⟨l'.drop 254,out++[255]++l'.take 254,A4,n4,c4,rfl,hnc4,⟨by rw[List.length_drop];have:=HN4.out;have:=HN.out;omega⟩,by omega,by
       have:=HN.out
       have:=HN4.out
       simp only[List.length_append,List.length_singleton,List.length_take]
       omega,⟨by
       rw[HS.out,Qjc HIX.out qq_11]
       simp⟩,⟨hC4 _ _ HC.out⟩,HR2',HB2'⟩
     case measure=>simp[lenV];omega
   ·rw[if_neg hbig]at hm
    subst hm
    have hbi:(m:Int)≤254:=by omega
    go_wp2_with (first
     |(go_at_call 80;refine(ix_at 0 (Kd.C_below hC1.out HB.out) hmc).mono ?_;rw[← HX.out];rintro e w2 ⟨rfl,hd⟩;obtain⟨q2,rfl⟩:=hd.out;clear hd)
     |(at_builtin;refine Kd.R_append (Kd.int .u8) (w0:=w) w.heap.size rfl (.tmp 15) (.tmp 20) 52 5 (.int .u8 0) 1 rfl Tryz.underlying52 Qhj rfl (by decide) (by omega) u3 out ((m:Int)+1) [.int .u8 ((m:Int)+1)] (fun _=>True) (fun _=>False) rfl ?ax ?aP (fun _ hk=>hk.elim) ?aF ?aO ?aB ?aS ?aL ?_;(case ax=>rfl);(case aP=>rfl);(case aF=>exact fun _ _=>trivial);(case aO=>exact Kd.R_drewN HR.out q2);(case aB=>exact Qby HB.out q2);(case aS=>exact HB.out.size);(case aL=>omega);intro v1 w1 HR1 hb1 hg1 hat1)
     |(at_builtin;refine Kd.R_append_rows (Kd.int .u8) (Rr:=fun x cs=>cs=[.int .u8 x]) (w0:=w) w.heap.size rfl (.tmp 21) (.tmp 22) 52 5 (.int .u8 0) 1 rfl Tryz.underlying52 Qhj rfl (by decide) (by omega) v1 (out++[(m:Int)+1]) (l'.take 254) A m c (fun _=>True) (fun _=>False) rfl rfl HR1 ?bR (fun _ _ h=>h) (fun _ hk=>hk.elim) (fun _ _=>trivial) hb1 hb1.size ?bL ?_;(case bR=>exact Kd.C_below hC1.out hb1);(case bL=>simp;omega);intro v2 w2 HR2 hb2 hg2 hat2))
    go_ret
    refine⟨v2,rfl,?_,hb2⟩
    have hlm:=HN.out
    rw[HS.out,Qjd HIX.out (by omega),← hlm]
    rw[List.take_of_length_le (by omega)]at HR2
    rw[show((m:Int)+1)%256=(m:Int)+1 by omega]
    simpa using HR2
end Go.Proofs.YtnnofopfbeklbaaGreat.C
end
section
namespace Go.Proofs.YtnnofopfbeklbaaGreat.C
open Go.RowKit Go.Proofs.YtnnofopfbeklbaaGreatW.PrintWords Go.Proofs.YtnnofopfbeklbaaGreatW.PrintLast Go.Proofs.YtnnofopfbeklbaaGreatW.PrintMore
theorem Qjf:((List.range 256).all fun a=>Go.bits .or .u8 (a:Int) 128 == (a:Int)%128+128)=true:=by kernel_rfl
theorem or128(a:Int)(h0:0≤a)(h1:a<256):Go.bits .or .u8 a 128=a%128+128:=by
 have h:=List.all_eq_true.1 Qjf a.toNat (List.mem_range.2 (by omega))
 have e:((a.toNat:Nat):Int)=a:=by omega
 rw[e]at h
 exact eq_of_beq h
def vput:Nat→Int→List Int
 | 0,x=>[x]
 | n+1,x=>if x<128 then [x]else(x%128+128) :: vput n (x/128)
theorem Qjg:∀(n:Nat) (x:Int),(vput n x).length≤n+1
 | 0,_=>by simp[vput]
 | n+1,x=>by
  unfold vput
  have:=Qjg n (x/128)
  split<;>simp<;>omega
theorem Qjh(b g:Nat)(x:Int)(xs:List Int)(w:World)(hx0:0≤x)(hx1:x<18446744073709551616)(hbg:b≤g)(hbw:b≤w.heap.size)(hI:IsBuf w b g xs)(hl:xs.length+10≤140737488355328) :
  Calls Tryz.prog 95 #[.pointer (some ⟨g,0,none⟩),.int .u64 x] w fun e w'=>(∃v,e=.returned v)∧IsBuf w' b g (xs++vput 9 x)∧Bw b g w w':=by
 have HI:=QA hI
 clear hI
 go_enter Tryz.func95,Tryz.ntmps95
 go_wp2
 go_loopw [1] (fun v1 wr=>∃(k:Nat) (ys:List Int) (xv:Int),k≤9∧ys.length=k∧v1=.int .u64 xv∧0≤xv∧xv<2^(64-7*k)∧Aside0 (vput 9 x=ys++vput (9-k) xv)∧Aside0 (IsBuf wr b g (xs++ys))∧Aside0 (Bw b g w wr))
  (fun v1 _=>(intOf v1).toNat)
 case atStart=>exact⟨0,[],x,by omega,rfl,rfl,hx0,by simpa using hx1,⟨rfl⟩,⟨by simpa using HI.out⟩,⟨Bw.refl _ _ _⟩⟩
 case round =>
  obtain⟨k,ys,xv,hk,hys,rfl,hx2,hx3,HL,HB,HW⟩:=hrel
  have hx4:xv<18446744073709551616:=by
   have:(2:Int)^(64-7*k)≤2^64:=by exact_mod_cast Nat.pow_le_pow_right (by decide) (by omega)
   omega
  by_cases hlt:128≤xv
  ·have hk9:k<9:=by
    by_cases e:k<9
    ·exact e
    ·obtain rfl:k=9:=by omega
     simp at hx3
     omega
   have hor:=or128 (xv%256) (by omega) (by omega)
   have hm:(xv%256)%128=xv%128:=by omega
   rw[hm]at hor
   have hx5:xv/128<2^(64-7*(k+1)):=by
    have e:(2:Int)^(64-7*k)=2^(64-7*(k+1))*128:=by
     rw[show 64-7*k=(64-7*(k+1))+7 by omega,Int.pow_add]
     rfl
    rw[e]at hx3
    exact Int.ediv_lt_of_lt_mul (by decide) hx3
   have HX5:=QA hx5
   clear hx3 hx5
   go_wp2_with (go_at_call 94;(try rw[hor]);refine(Qie b g (xv%128+128) (xs++ys) _ (by omega) (by omega) hbg (Nat.le_trans hbw HW.out.size) HB.out qq_13).mono ?_;rintro e w1 ⟨rfl,hd,hb1⟩;have HI1:=QA hd;have HB1:=QA (HW.out.trans hb1);clear hd hb1)
   go_roundw
   case rel=>exact⟨k+1,ys++[xv%128+128],xv/128,by omega,by simp[hys],by go_num,by omega,HX5.out,⟨by
    rw[HL.out,show 9-k=(9-(k+1))+1 by omega,vput,if_neg (by omega)];simp⟩,⟨by rw[← List.append_assoc];exact HI1.out⟩,⟨HB1.out⟩⟩
   case measure=>simp[intOf];omega
  ·have hxm:xv%256=xv:=by omega
   go_wp2_with (go_at_call 94;(try rw[hxm]);refine(Qie b g xv (xs++ys) _ (by omega) (by omega) hbg (Nat.le_trans hbw HW.out.size) HB.out qq_13).mono ?_;rintro e w1 ⟨rfl,hd,hb1⟩;have HI1:=QA hd;have HB1:=QA (HW.out.trans hb1);clear hd hb1)
   go_end0
   refine⟨⟨_,rfl⟩,?_,HB1.out⟩
   have e:vput (9-k) xv=[xv]:=by
    cases h:9-k with
    | zero=>rfl
    | succ m=>rw[vput,if_pos (by omega)]
   rw[HL.out,e,← List.append_assoc]
   exact HI1.out
theorem Qji(W:World)(s:ByteArray)(hs:s.size≤9223372036854775807):Kd.C (Kd.int .u8) (Lib.bytesWorld W 5 s) (some ⟨W.heap.size,0,none⟩) s.size (bytesOf s) :=
 Kd.C_of_reads (d:=(0:Int)) (Qcj W 5 s hs)
theorem Qjj(b g:Nat)(s:ByteArray)(xs:List Int)(w:World)(hs:s.size≤70368744177664)(hbg:b≤g)(hbw:b≤w.heap.size)(hI:IsBuf w b g xs)(hl:xs.length+s.size+10≤140737488355328) :
  Calls Tryz.prog 153 #[.pointer (some ⟨g,0,none⟩),.string s] w fun e w'=>(∃v,e=.returned v)∧IsBuf w' b g (xs++(vput 9 s.size++bytesOf s))∧Bw b g w w':=by
 have hvl:=Qjg 9 s.size
 have kb:=fun W=>Qci (P:=Tryz.prog) 9 52 5 Tryz.underlying9 Tryz.underlying52 Tryz.underlying5 s W
 go_enter Tryz.func153,Tryz.ntmps153
 go_wp2_with (first |(go_at_call 95;refine(Qjh b g s.size xs w (by omega) (by omega) hbg hbw hI (by omega)).mono ?_;rintro e w1 ⟨⟨_,rfl⟩,hd,hb1⟩) |(go_at_call 150;refine(Qik b g _ _ s.size (bytesOf s) (xs++vput 9 s.size) (Lib.bytesWorld w1 5 s) (Qch s).symm (Qji w1 s (by omega)) hbg (by rw[Lib.bytesWorld_size];have:=hb1.size;omega) (hd.kept (Qck (Below.refl _ _) (Nat.le_refl _) _ _)) qq_13).mono ?_;rintro e w2 ⟨rfl,hd2,hb2⟩))
 go_end0
 refine⟨⟨_,rfl⟩,by rw[← List.append_assoc];exact hd2,hb1.trans ((Bw.below (Qck (Below.refl _ _) (Nat.le_refl _) _ _) (by have:=hb1.size;omega)).trans hb2)⟩
theorem rd_mem{l:List Int}{i:Int}(h0:0≤i)(h1:i<l.length):rd l i∈l:=by
 have h:i.toNat<l.length:=by omega
 unfold rd
 rw[List.getD_eq_getElem?_getD,List.getElem?_eq_getElem h]
 exact List.getElem_mem h
theorem Qkc{l:List Int}{k:Nat}(h:k<l.length):l.take (k+1)=l.take k++[rd l (k:Int)]:=by
 unfold rd
 rw[List.take_add_one,List.getElem?_eq_getElem h,List.getD_eq_getElem?_getD]
 simp[List.getElem?_eq_getElem h]
theorem Qjl(l:List Int):(l.flatMap (fun x=>leb x 8)).length=8*l.length:=by
 induction l with
 | nil=>rfl
 | cons a l ih=>simp[Qhy,ih];omega
theorem Qjm(b g:Nat)(A0:Option Addr)(c0:Nat)(l:List Int)(xs:List Int)(w:World)(hr0:∀W',Bw b g w W'→Kd.C (Kd.int .u64) W' A0 l.length l)(hwf:∀x∈l,0≤x∧x<18446744073709551616)(hbg:b≤g)(hbw:b≤w.heap.size)(hI:IsBuf w b g xs)(hl:xs.length+8*l.length≤140737488355328) :
  Calls Tryz.prog 114 #[.pointer (some ⟨g,0,none⟩),.slice A0 l.length c0] w fun e w'=>(∃v,e=.returned v)∧IsBuf w' b g (xs++l.flatMap (fun x=>leb x 8))∧Bw b g w w':=by
 have HI:=QA hI
 clear hI
 go_enter Tryz.func114,Tryz.ntmps114
 go_wp2
 go_loopw [8] (fun i wr=>∃(k:Nat) (iv:Int),k≤l.length∧i=.int .i64 iv∧Aside0 (iv=(k:Int))∧Aside0 (IsBuf wr b g (xs++(l.take k).flatMap (fun x=>leb x 8)))∧Aside0 (Bw b g w wr))
  (fun i _=>l.length-(intOf i).toNat)
 case atStart=>exact⟨0,0,Nat.zero_le _,rfl,⟨rfl⟩,⟨by simpa using HI.out⟩,⟨Bw.refl _ _ _⟩⟩
 case round =>
  obtain⟨k,iv,hk,rfl,HK,HB,HW⟩:=hrel
  by_cases hlt:k<l.length
  ·have hge:0≤iv:=by have:=HK.out;omega
   have hl2:iv<(l.length:Int):=by have:=HK.out;omega
   obtain⟨ad,rfl,hx0⟩:=Kd.at_int (hr0 wr HW.out) iv hge hl2
   obtain⟨x,hx⟩:∃x,x=rd l iv:=⟨_,rfl⟩
   rw[← hx]at hx0
   have hxr:0≤x∧x<18446744073709551616:=by rw[hx];exact hwf _ (rd_mem hge hl2)
   have HX:=QA hx
   clear hx
   have hlen:=QA (show(xs++(l.take k).flatMap (fun x=>leb x 8)).length+8≤140737488355328 by rw[List.length_append,Qjl,List.length_take];omega)
   go_wp2_with (go_at_call 151;refine(Qih b g x (xs++(l.take k).flatMap (fun x=>leb x 8)) _ hxr.1 hxr.2 hbg (Nat.le_trans hbw HW.out.size) HB.out hlen.out).mono ?_;rintro e w1 ⟨rfl,hd,hb1⟩;have HI1:=QA hd;have HB1:=QA (HW.out.trans hb1);clear hd hb1)
   go_roundw
   case rel=>exact⟨k+1,iv+1,by omega,by go_num,⟨by have:=HK.out;omega⟩,⟨by
    have e1:iv=(k:Int):=HK.out
    rw[Qkc hlt,List.flatMap_append,← List.append_assoc,← e1,← HX.out]
    simpa using HI1.out⟩,⟨HB1.out⟩⟩
   case measure=>simp[intOf];omega
  ·obtain rfl:k=l.length:=by omega
   obtain rfl:iv=(l.length:Int):=HK.out
   go_wp2
   go_end0
   refine⟨⟨_,rfl⟩,?_,HW.out⟩
   simpa using HB.out
def ent(x:S117):List Int:=leb x.f0 8++leb x.f1 4
theorem Qjn{l:List S117}{k:Nat}(h:k<l.length):l.take (k+1)=l.take k++[Qht l (k:Int)]:=by
 unfold Qht
 rw[List.take_add_one,List.getElem?_eq_getElem h,List.getD_eq_getElem?_getD]
 simp[List.getElem?_eq_getElem h]
theorem rdT_mem{l:List S117}{i:Int}(h0:0≤i)(h1:i<l.length):Qht l i∈l:=by
 have h:i.toNat<l.length:=by omega
 unfold Qht
 rw[List.getD_eq_getElem?_getD,List.getElem?_eq_getElem h]
 exact List.getElem_mem h
theorem Qjo(l:List S117):(l.flatMap ent).length=12*l.length:=by
 induction l with
 | nil=>rfl
 | cons a l ih=>simp[ent,Qhy,ih];omega
theorem Qjp(b g:Nat)(A0:Option Addr)(c0:Nat)(l:List S117)(xs:List Int)(w:World)(hr0:∀W',Bw b g w W'→Kd.C k117 W' A0 l.length l)(hwf:∀x∈l,(0≤x.f0∧x.f0<18446744073709551616)∧0≤x.f1∧x.f1<4294967296)(hbg:b≤g)(hbw:b≤w.heap.size)(hI:IsBuf w b g xs)(hl:xs.length+12*l.length≤140737488355328) :
  Calls Tryz.prog 113 #[.pointer (some ⟨g,0,none⟩),.slice A0 l.length c0] w fun e w'=>(∃v,e=.returned v)∧IsBuf w' b g (xs++l.flatMap ent)∧Bw b g w w':=by
 have hu:=Tryz.underlying117
 have HI:=QA hI
 clear hI
 go_enter Tryz.func113,Tryz.ntmps113
 go_wp2
 go_loopw [8] (fun i wr=>∃(k:Nat) (iv:Int),k≤l.length∧i=.int .i64 iv∧Aside0 (iv=(k:Int))∧Aside0 (IsBuf wr b g (xs++(l.take k).flatMap ent))∧Aside0 (Bw b g w wr))
  (fun i _=>l.length-(intOf i).toNat)
 case atStart=>exact⟨0,0,Nat.zero_le _,rfl,⟨rfl⟩,⟨by simpa using HI.out⟩,⟨Bw.refl _ _ _⟩⟩
 case round =>
  obtain⟨k,iv,hk,rfl,HK,HB,HW⟩:=hrel
  by_cases hlt:k<l.length
  ·have hge:0≤iv:=by have:=HK.out;omega
   have hl2:iv<(l.length:Int):=by have:=HK.out;omega
   obtain⟨ad,rfl,hx0,hx1⟩:=Qhu (hr0 wr HW.out) iv hge hl2
   obtain⟨x,hx⟩:∃x,x=Qht l iv:=⟨_,rfl⟩
   rw[← hx]at hx0 hx1
   have hxr:=hwf x (by rw[hx];exact rdT_mem hge hl2)
   have HX:=QA hx
   clear hx
   have hlen:=QA (show(xs++(l.take k).flatMap ent).length+12≤140737488355328 by rw[List.length_append,Qjo,List.length_take];omega)
   go_upto_region 3 with fail
   obtain⟨B,hBe⟩:∃B,B=wr.heap.size:=⟨_,rfl⟩
   obtain⟨W,hW⟩:∃W,W=wr.alloc (.cells #[.int .u64 x.f0,.int .u32 x.f1] 117):=⟨_,rfl⟩
   have hBlk:W.heap[B]? = some (.cells #[.int .u64 x.f0,.int .u32 x.f1] 117 (0,0)):=by rw[hW,hBe];exact Qdh wr _
   have hIB:IsBuf W b g (xs++(l.take k).flatMap ent):=by rw[hW];exact HB.out.kept (Qbw (Below.refl _ _) _)
   have hBW:Bw b g w W:=by rw[hW];exact HW.out.trans (Bw.below (Qbw (Below.refl _ _) _) (Nat.le_trans hbw HW.out.size))
   have hgB:B≠g:=by have:=HB.out.lt;omega
   rw[← hW,← hBe]
   clear hW hBe hx0 hx1
   have d0:Below W.heap.size W W.drew:=Qbx (Below.refl _ _)
   have hBlk1:=Qdg hBlk d0
   have hIB1:=hIB.kept d0
   have hBW1:Bw b g w W.drew:=hBW.trans (Bw.below d0 (Nat.le_trans hbw hBW.size))
   have c0:W.drew.cell? ⟨B,0,none⟩=some (.int .u64 x.f0):=(Qct hBlk1 0).trans rfl
   have c1:W.drew.cell? ⟨B,1,none⟩=some (.int .u32 x.f1):=(Qct hBlk1 1).trans rfl
   have hs1:b≤W.drew.heap.size:=Nat.le_trans hbw hBW1.size
   go_region_held3 (fun w'=>w'.cell? ⟨B,0,none⟩=some (.int .u64 x.f0)∧w'.cell? ⟨B,1,none⟩=some (.int .u32 x.f1)) (first|exact⟨c0,c1⟩|exact⟨c2,c3⟩|exact⟨c4,c5⟩) (first |(go_at_call 151;refine(Qih b g x.f0 (xs++(l.take k).flatMap ent) W.drew hxr.1.1 hxr.1.2 hbg hs1 hIB1 (by have:=hlen.out;omega)).mono ?_;rintro e w2 ⟨rfl,hI2,hb2⟩;have hBlk2:=hb2.2 _ _ _ hBlk1 (by decide) hgB;have c2:w2.cell? ⟨B,0,none⟩=some (.int .u64 x.f0):=(Qct hBlk2 0).trans rfl;have c3:w2.cell? ⟨B,1,none⟩=some (.int .u32 x.f1):=(Qct hBlk2 1).trans rfl) |(go_at_call 112;refine(Qig b g x.f1 (xs++(l.take k).flatMap ent++leb x.f0 8) w2 hxr.2.1 hxr.2.2 hbg (Nat.le_trans hs1 hb2.size) hI2 (by have:=hlen.out;simp[Qhy]at this ⊢;omega)).mono ?_;rintro e w3 ⟨rfl,hI3,hb3⟩;have hBlk3:=hb3.2 _ _ _ hBlk2 (by decide) hgB;have c4:w3.cell? ⟨B,0,none⟩=some (.int .u64 x.f0):=(Qct hBlk3 0).trans rfl;have c5:w3.cell? ⟨B,1,none⟩=some (.int .u32 x.f1):=(Qct hBlk3 1).trans rfl))
   have HI3:=QA hI3
   have HB3:=QA (hBW1.trans (hb2.trans hb3))
   clear hI3 hI2 hb2 hb3 c0 c1 c2 c3 c4 c5 hBlk hBlk1 hBlk2 hBlk3 hIB hIB1 hBW hBW1
   go_wp2
   go_roundw
   case rel=>exact⟨k+1,iv+1,by omega,by go_num,⟨by have:=HK.out;omega⟩,⟨by
    have e1:iv=(k:Int):=HK.out
    rw[Qjn hlt,List.flatMap_append,← List.append_assoc,← e1,← HX.out]
    simpa [ent]using HI3.out⟩,⟨HB3.out⟩⟩
   case measure=>simp[intOf];omega
  ·obtain rfl:k=l.length:=by omega
   obtain rfl:iv=(l.length:Int):=HK.out
   go_wp2
   go_end0
   refine⟨⟨_,rfl⟩,?_,HW.out⟩
   simpa using HB.out
theorem Qjz(a0:Int)(A1:Option Addr)(c1:Nat)(l1:List Int)(w:World)(hr1:Kd.C (Kd.int .u8) w A1 l1.length l1)(hl:l1.length≤140737488355328) :
  Calls Tryz.prog 101 #[.int .u64 a0,.slice A1 l1.length c1] w fun e w'=>e=.returned (.int .u64 (Qjx a0 l1))∧Below w.heap.size w w':=by
 go_enter Tryz.func101,Tryz.ntmps101
 go_wp2_with (first |(go_at_call 155;refine(st_New a0 w).mono ?_;rintro e w1 ⟨rfl,⟨rv,hv,hR⟩,hb1⟩;have hv1:StAt w1 w.heap.size a0 (IntKind.u64.wrap (IntKind.u64.wrap (a0+Q1)+Q2),IntKind.u64.wrap (a0+Q2),a0,IntKind.u64.wrap (a0-Q1)) rv 0:=hv;have hr:=Kd.C_below hr1 hb1;have hf:=Kd.far_C (0:Int) hr1 (Nat.le_refl w.heap.size)) |(go_at_call 156;refine(Qjy w.heap.size w.heap.size a0 _ rv A1 c1 l1 w1 hr hf hv1 hR (Nat.le_refl _) hb1.size hl).mono ?_;rintro e w2 ⟨rfl,⟨rv2,hv2,hR2⟩,hb2⟩) |(go_at_call 157;refine(st_Sum w.heap.size w.heap.size a0 _ rv2 _ _ w2 hv2 (Kd.Q_of_R hR2)).mono ?_;rintro e w3 ⟨rfl,hb3⟩))
 go_ret
 exact⟨rfl,(hb1.trans hb2).trans (Qia hb3 (Nat.le_trans hb1.size hb2.size))⟩
theorem sum_of'(a0:Int)(A1:Option Addr)(c1 n:Nat)(l1:List Int)(w:World)(hn:n=l1.length)(hr1:Kd.C (Kd.int .u8) w A1 n l1)(hl:n≤140737488355328) :
  Calls Tryz.prog 101 #[.int .u64 a0,.slice A1 n c1] w fun e w'=>e=.returned (.int .u64 (Qjx a0 l1))∧Below w.heap.size w w':=by
 subst hn
 exact Qjz a0 A1 c1 l1 w hr1 hl
theorem hash_of(s:ByteArray)(w:World)(hl:s.size≤140737488355328) :
  Calls Tryz.prog 60 #[.string s] w fun e w'=>e=.returned (.int .u64 (Qjx 0 (bytesOf s)))∧Below w.heap.size w w':=by
 have kb:=fun W=>Qci (P:=Tryz.prog) 9 52 5 Tryz.underlying9 Tryz.underlying52 Tryz.underlying5 s W
 have hbb:=Qck (Below.refl w.heap.size w) (Nat.le_refl _) 5 s
 go_enter Tryz.func60,Tryz.ntmps60
 go_wp2_with (go_at_call 101;refine(sum_of' 0 _ _ s.size (bytesOf s) (Lib.bytesWorld w 5 s) (Qch s).symm (Qji w s (by omega)) hl).mono ?_;rintro e w1 ⟨rfl,hb1⟩)
 go_ret
 exact⟨rfl,Qbz hbb hbb.size hb1⟩
def chk(d:Bool)(key v:ByteArray):Int:=if key.toList=([]:List UInt8)then 4 else if(key.size:Int) > 4096 then 3 else if(d && (v.toList != ([]:List UInt8)))=true then 4 else if(v.size:Int) > 1048576 then 3 else 0
theorem Qlf(d:Bool)(s:Int)(key v:ByteArray):Qbm.f 1 d s key v=some (chk d key v):=by
 unfold Qbm.f chk
 split
 ·rfl
 split
 ·rfl
 cases d
 ·simp only[Bool.false_eq_true,if_false,Bool.false_and,Qbm.j0]
  split<;>rfl
 ·simp only[if_true,Bool.true_and,Qbm.j0]
  split
  ·rfl
  ·split<;>rfl
theorem Qlg{d:Bool}{key v:ByteArray}(h:chk d key v=0):key.size≤4096∧v.size≤1048576:=by
 unfold chk at h
 repeat' split at h
 all_goals first|omega|skip
def Qlh(d:Bool)(s:Int)(key v:ByteArray):List Int:=[if d then 3 else 2]++vput 9 s++(vput 9 key.size++bytesOf key)++(if d then []else vput 9 v.size++bytesOf v)
def Qbl.f(a0_0:Bool)(a0_1:Int)(a0_2:ByteArray)(a0_3:ByteArray):Option (List Int × Int) :=
 if 0≤a0_1 then if a0_1<18446744073709551616 then some (if chk a0_0 a0_2 a0_3=0 then(Qlh a0_0 a0_1 a0_2 a0_3,0)else([],chk a0_0 a0_2 a0_3))else none else none
theorem IsBuf.new(w:World)(b:Nat):IsBuf (w.alloc (.cells #[.slice none 0 0] 167)) b w.heap.size []:=⟨_,Qdh w _,Kd.R_nil _ _ _ _ _⟩
theorem box4{W:World}{B:Nat}{d:Bool}{s:Int}{key v:ByteArray}(h:W.heap[B]? = some (.cells #[.bool d,.int .u64 s,.string key,.string v] 39 (0,0))) :
  W.cell? ⟨B,0,none⟩=some (.bool d)∧W.cell? ⟨B,1,none⟩=some (.int .u64 s)∧W.cell? ⟨B,2,none⟩=some (.string key)∧W.cell? ⟨B,3,none⟩=some (.string v) :=
 ⟨(Qct h 0).trans rfl,(Qct h 1).trans rfl,(Qct h 2).trans rfl,(Qct h 3).trans rfl⟩
theorem body_of(d:Bool)(s:Int)(key v:ByteArray)(w:World)(hs0:0≤s)(hs1:s<18446744073709551616)(hc:chk d key v=0) :
  Calls Tryz.prog 99 #[.agg #[.bool d,.int .u64 s,.string key,.string v]] w fun e w'=>∃v0_:Value,e=.returned (.tuple #[v0_,.int .i64 0])∧R8 w' w.heap.size v0_ (Qlh d s key v)∧Below w.heap.size w w':=by
 have hu:=Tryz.underlying39
 obtain⟨hk,hv⟩:=Qlg hc
 have hl1:=Qjg 9 s
 have hl2:=Qjg 9 key.size
 have hl3:=Qjg 9 v.size
 have hkl:=Qch key
 have hvl:=Qch v
 have hcheck:=Qlf d s key v
 rw[hc]at hcheck
 have HC:=QA hcheck
 clear hcheck hc
 have hba:Below w.heap.size w (w.alloc (.cells #[.bool d,.int .u64 s,.string key,.string v] 39)):=Qbw (Below.refl _ _) _
 have hbn:=Qdh w (.cells #[.bool d,.int .u64 s,.string key,.string v] 39)
 cases d
 all_goals
  go_enter Tryz.func99,Tryz.ntmps99
  go_wp2_with (first
   |(go_at_call 56;refine(Qbm.calls 1 _ s key v 0 _ HC.out).mono ?_;rintro e w1 ⟨rfl,hb1⟩;have hk1:=Qdg hbn hb1;obtain⟨c0,c1,c2,c3⟩:=box4 hk1;have hw1:=QA (Qbz hba hba.size hb1);have hs1':=QA (show w.heap.size<w1.heap.size from Qcs hk1);have HI1:=QA (IsBuf.new w1 w.heap.size);have hk1':=Qdd hk1 (.cells #[.slice none 0 0] 167);obtain⟨c0',c1',c2',c3'⟩:=box4 hk1';clear hk1 hb1 hbn hba)
   |(go_at_call 94;refine(Qie w.heap.size w1.heap.size _ [] _ (by decide) (by decide) (Nat.le_of_lt hs1'.out) (by rw[World.size_alloc];have:=hs1'.out;omega) HI1.out (by simp)).mono ?_;rintro e w2 ⟨rfl,hI2,hb2⟩;have hk2:=hb2.2 _ _ _ hk1' (by decide) (Nat.ne_of_lt hs1'.out);obtain⟨d0,d1,d2,d3⟩:=box4 hk2;have HI2:=QA hI2;have hs2:=QA hb2.size;clear hI2 c0 c1 c2 c3 c0' c1' c2' c3')
   |(go_at_call 95;refine(Qjh w.heap.size w1.heap.size s _ _ hs0 hs1 (Nat.le_of_lt hs1'.out) (by have:=hs1'.out;have:=hs2.out;simp at this;omega) HI2.out (by simp)).mono ?_;rintro e w3 ⟨⟨_,rfl⟩,hI3,hb3⟩;have hk3:=hb3.2 _ _ _ hk2 (by decide) (Nat.ne_of_lt hs1'.out);obtain⟨e0,e1,e2,e3⟩:=box4 hk3;have HI3:=QA hI3;have hs3:=QA (Nat.le_trans hs2.out hb3.size);clear hI3 d0 d1 d2 d3)
   |(go_at_call_of 153 key;refine(Qjj w.heap.size w1.heap.size key _ _ (by omega) (Nat.le_of_lt hs1'.out) (by have:=hs1'.out;have:=hs3.out;simp at this;omega) HI3.out qq_13).mono ?_;rintro e w4 ⟨⟨_,rfl⟩,hI4,hb4⟩;have hk4:=hb4.2 _ _ _ hk3 (by decide) (Nat.ne_of_lt hs1'.out);obtain⟨f0,f1,f2,f3⟩:=box4 hk4;have HI4:=QA hI4;have hs4:=QA (Nat.le_trans hs3.out hb4.size);clear hI4 e0 e1 e2 e3)
   |(go_at_call_of 153 v;refine(Qjj w.heap.size w1.heap.size v _ _ (by omega) (Nat.le_of_lt hs1'.out) (by have:=hs1'.out;have:=hs4.out;simp at this;omega) HI4.out qq_13).mono ?_;rintro e w5 ⟨⟨_,rfl⟩,hI5,hb5⟩;have HI5:=QA hI5;have hs5:=QA (Nat.le_trans hs4.out hb5.size))
   |(go_at_call 97;first |(refine(Qil w.heap.size w1.heap.size _ _ HI5.out qq_13).mono ?_;rintro e w6 ⟨vv,rfl,hR6,hb6⟩) |(refine(Qil w.heap.size w1.heap.size _ _ HI4.out qq_13).mono ?_;rintro e w6 ⟨vv,rfl,hR6,hb6⟩)))
 ·refine bodyPost_ret (results_tmp2 rfl _ _ _) rfl ?_
  have hsz:=hs5.out
  simp at hsz
  have:=hs1'.out
  refine⟨vv,rfl,?_,(((((hw1.out.trans (Qia (Qbw (Below.refl _ _) _) (Nat.le_of_lt hs1'.out))).trans hb2.1).trans hb3.1).trans hb4.1).trans hb5.1).trans (Qia hb6 (by omega))⟩
  have e:Qlh false s key v=[]++[2]++vput 9 s++(vput 9 key.size++bytesOf key)++(vput 9 v.size++bytesOf v):=by simp[Qlh]
  rw[e]
  exact hR6.low (by omega)
 ·refine bodyPost_ret (results_tmp2 rfl _ _ _) rfl ?_
  have hsz:=hs4.out
  simp at hsz
  have:=hs1'.out
  refine⟨vv,rfl,?_,((((hw1.out.trans (Qia (Qbw (Below.refl _ _) _) (Nat.le_of_lt hs1'.out))).trans hb2.1).trans hb3.1).trans hb4.1).trans (Qia hb6 (by omega))⟩
  have e:Qlh true s key v=[]++[3]++vput 9 s++(vput 9 key.size++bytesOf key):=by simp[Qlh]
  rw[e]
  exact hR6.low (by omega)
theorem Qli(d:Bool)(s:Int)(key v:ByteArray)(w:World)(c:Int)(hc:chk d key v=c)(hn:c≠0) :
  Calls Tryz.prog 99 #[.agg #[.bool d,.int .u64 s,.string key,.string v]] w fun e w'=>∃v0_:Value,e=.returned (.tuple #[v0_,.int .i64 c])∧R8 w' w.heap.size v0_ []∧Below w.heap.size w w':=by
 have hu:=Tryz.underlying39
 have hcheck:=Qlf d s key v
 rw[hc]at hcheck
 have HC:=QA hcheck
 have hn1:(c == 0)=false:=by simpa using hn
 have hn2:(c != 0)=true:=by simpa using hn
 clear hcheck hc
 have hba:Below w.heap.size w (w.alloc (.cells #[.bool d,.int .u64 s,.string key,.string v] 39)):=Qbw (Below.refl _ _) _
 go_enter Tryz.func99,Tryz.ntmps99
 go_wp2_with (go_at_call 56;refine(Qbm.calls 1 _ s key v c _ HC.out).mono ?_;rintro e w1 ⟨rfl,hb1⟩)
 refine bodyPost_ret (results_tmp2 rfl _ _ _) rfl ?_
 exact⟨_,rfl,Kd.R_nil _ _ _ _ _,Qbz hba hba.size hb1⟩
theorem Qbl.calls(a0_0:Bool)(a0_1:Int)(a0_2:ByteArray)(a0_3:ByteArray)(r1:List Int)(r2:Int)(w:World)(h:Qbl.f a0_0 a0_1 a0_2 a0_3=some (r1,r2)) :
  Calls Tryz.prog 99 #[.agg #[.bool a0_0,.int .u64 a0_1,.string a0_2,.string a0_3]] w fun e w'=>∃v0_:Value,e=.returned (.tuple #[v0_,.int .i64 r2])∧Kd.R (Kd.int .u8) 5 w' w.heap.size (fun _=>True) v0_ r1∧Below w.heap.size w w':=by
 unfold Qbl.f at h
 by_cases h0:0≤a0_1
 ·by_cases h1:a0_1<18446744073709551616
  ·rw[if_pos h0,if_pos h1]at h
   by_cases h2:chk a0_0 a0_2 a0_3=0
   ·rw[if_pos h2]at h
    cases h
    exact body_of _ _ _ _ w h0 h1 h2
   ·rw[if_neg h2]at h
    cases h
    exact Qli _ _ _ _ w _ rfl h2
  ·rw[if_pos h0,if_neg h1]at h;cases h
 ·rw[if_neg h0]at h;cases h
end Go.Proofs.YtnnofopfbeklbaaGreat.C
end
