/- Merged texts. -/
import Derived.Test.YteaocbonofboeaaGreatMD02
import Derived.Test.YteaocbonofboeaaGreatMD06
import Derived.Test.YteaocbonofboeaaGreatMD09
import Derived.Test.YteaocbonofboeaaGreatMD03
import Derived.Test.YteaocbonofboeaaGreatMD07
import Derived.OpenShut
set_option linter.unusedVariables false
set_option linter.unusedSimpArgs false
set_option maxHeartbeats 8000000
set_option maxRecDepth 100000
section
namespace Go.Proofs.YteaocbonofboeaaGreat.C
open Go.RowKit Go.Proofs.YteaocbonofboeaaGreatW.PrintWords Go.Proofs.YteaocbonofboeaaGreatW.PrintLast Go.Proofs.YteaocbonofboeaaGreatW.PrintMore
theorem Qjx:((List.range 256).all fun a=>Go.bits .or .u8 (a:Int) 128 == (a:Int)%128+128)=true:=by kernel_rfl
theorem or128(a:Int)(h0:0≤a)(h1:a<256):Go.bits .or .u8 a 128=a%128+128:=by
 have h:=List.all_eq_true.1 Qjx a.toNat (List.mem_range.2 (by omega));have e:((a.toNat:Nat):Int)=a:=by omega
 rw[e]at h;exact eq_of_beq h
def vput:Nat→Int→List Int
 | 0,x=>[x]
 | n+1,x=>if x<128 then [x]else(x%128+128) :: vput n (x/128)
theorem Qjy:∀(n:Nat) (x:Int),(vput n x).length≤n+1
 | 0,_=>by simp[vput]
 | n+1,x=>by
  unfold vput;have:=Qjy n (x/128);split<;>simp<;>omega
theorem Qjz(b g:Nat)(x:Int)(xs:List Int)(w:World)(j:0≤x)(l:x<18446744073709551616)(hbg:b≤g)(hbw:b≤w.heap.size)(hI:IsBuf w b g xs)(hl:xs.length+10≤140737488355328) :
  Calls Tryz.prog 102 #[.pointer (some ⟨g,0,none⟩),.int .u64 x] w fun e w'=>(∃v,e=.returned v)∧IsBuf w' b g (xs++vput 9 x)∧Bw b g w w':=by
 have HI:=QA hI;clear hI
 go_enter Tryz.func102,Tryz.ntmps102
 go_wp2
 go_loopw [1] (fun v1 wr=>∃(k:Nat) (ys:List Int) (xv:Int),k≤9∧ys.length=k∧v1=.int .u64 xv∧0≤xv∧xv<2^(64-7*k)∧Aside0 (vput 9 x=ys++vput (9-k) xv)∧Aside0 (IsBuf wr b g (xs++ys))∧Aside0 (Bw b g w wr))
  (fun v1 _=>(intOf v1).toNat)
 case atStart=>exact⟨0,[],x,by omega,rfl,rfl,j,by simpa using l,⟨rfl⟩,⟨by simpa using HI.out⟩,⟨Bw.refl _ _ _⟩⟩
 case round =>
  obtain⟨k,ys,xv,hk,hys,rfl,n,a,HL,HB,HW⟩:=hrel;have o:xv<18446744073709551616:=by
   have:(2:Int)^(64-7*k)≤2^64:=by exact_mod_cast Nat.pow_le_pow_right (by decide) (by omega)
   omega
  by_cases hlt:128≤xv
  ·have hk9:k<9:=by
    by_cases e:k<9
    ·exact e
    ·obtain rfl:k=9:=by omega
     simp at a;omega
   have hor:=or128 (xv%256) (by omega) (by omega);have hm:(xv%256)%128=xv%128:=by omega
   rw[hm]at hor;have d:xv/128<2^(64-7*(k+1)):=by
    have e:(2:Int)^(64-7*k)=2^(64-7*(k+1))*128:=by
     rw[show 64-7*k=(64-7*(k+1))+7 by omega,Int.pow_add];rfl
    rw[e]at a;exact Int.ediv_lt_of_lt_mul (by decide) a
   have HX5:=QA d;clear a d
   go_wp2_with (go_at_call 101;(try rw[hor]);refine(Qiw b g (xv%128+128) (xs++ys) _ (by omega) (by omega) hbg (Nat.le_trans hbw HW.out.size) HB.out (by simp;omega)).mono ?_;rintro e w1 ⟨rfl,hd,hb1⟩;have HI1:=QA hd;have c:=QA (HW.out.trans hb1);clear hd hb1)
   go_roundw
   case rel=>exact⟨k+1,ys++[xv%128+128],xv/128,by omega,by simp[hys],by go_num,by omega,HX5.out,⟨by
    rw[HL.out,show 9-k=(9-(k+1))+1 by omega,vput,if_neg (by omega)];simp⟩,⟨by rw[← List.append_assoc];exact HI1.out⟩,⟨c.out⟩⟩
   case measure=>simp[intOf];omega
  ·have hxm:xv%256=xv:=by omega
   go_wp2_with (go_at_call 101;(try rw[hxm]);refine(Qiw b g xv (xs++ys) _ (by omega) (by omega) hbg (Nat.le_trans hbw HW.out.size) HB.out (by simp;omega)).mono ?_;rintro e w1 ⟨rfl,hd,hb1⟩;have HI1:=QA hd;have c:=QA (HW.out.trans hb1);clear hd hb1)
   go_end0
   refine⟨⟨_,rfl⟩,?_,c.out⟩;have e:vput (9-k) xv=[xv]:=by
    cases h:9-k with
    | zero=>rfl
    | succ m=>rw[vput,if_pos (by omega)]
   rw[HL.out,e,← List.append_assoc];exact HI1.out
theorem Qka(W:World)(s:ByteArray)(hs:s.size≤9223372036854775807):Kd.C (Kd.int .u8) (Lib.bytesWorld W 5 s) (some ⟨W.heap.size,0,none⟩) s.size (bytesOf s) :=
 Kd.C_of_reads (d:=(0:Int)) (Qcr W 5 s hs)
theorem Qkb(b g:Nat)(s:ByteArray)(xs:List Int)(w:World)(hs:s.size≤70368744177664)(hbg:b≤g)(hbw:b≤w.heap.size)(hI:IsBuf w b g xs)(hl:xs.length+s.size+10≤140737488355328) :
  Calls Tryz.prog 152 #[.pointer (some ⟨g,0,none⟩),.string s] w fun e w'=>(∃v,e=.returned v)∧IsBuf w' b g (xs++(vput 9 s.size++bytesOf s))∧Bw b g w w':=by
 have hvl:=Qjy 9 s.size;have kb:=fun W=>Qcq (P:=Tryz.prog) 9 40 5 Tryz.underlying9 Tryz.underlying40 Tryz.underlying5 s W
 go_enter Tryz.func152,Tryz.ntmps152
 go_wp2_with (first |(go_at_call 102;refine(Qjz b g s.size xs w (by omega) (by omega) hbg hbw hI (by omega)).mono ?_;rintro e w1 ⟨⟨_,rfl⟩,hd,hb1⟩) |(go_at_call 149;refine(Qjc b g _ _ s.size (bytesOf s) (xs++vput 9 s.size) (Lib.bytesWorld w1 5 s) (Qcp s).symm (Qka w1 s (by omega)) hbg (by rw[Lib.bytesWorld_size];have:=hb1.size;omega) (hd.kept (Qcs (Below.refl _ _) (Nat.le_refl _) _ _)) (by simp;omega)).mono ?_;rintro e w2 ⟨rfl,hd2,hb2⟩))
 go_end0
 refine⟨⟨_,rfl⟩,by rw[← List.append_assoc];exact hd2,hb1.trans ((Bw.below (Qcs (Below.refl _ _) (Nat.le_refl _) _ _) (by have:=hb1.size;omega)).trans hb2)⟩
theorem rd_mem{l:List Int}{i:Int}(h0:0≤i)(h1:i<l.length):rd l i∈l:=by
 have h:i.toNat<l.length:=by omega
 unfold rd;rw[List.getD_eq_getElem?_getD,List.getElem?_eq_getElem h];exact List.getElem_mem h
theorem Qoh{l:List Int}{k:Nat}(h:k<l.length):l.take (k+1)=l.take k++[rd l (k:Int)]:=by
 unfold rd;rw[List.take_add_one,List.getElem?_eq_getElem h,List.getD_eq_getElem?_getD];simp[List.getElem?_eq_getElem h]
theorem Qkd(l:List Int):(l.flatMap (fun x=>leb x 8)).length=8*l.length:=by
 induction l with
 | nil=>rfl
 | cons a l ih=>simp[Qiq,ih];omega
theorem Qke(b g:Nat)(A0:Option Addr)(c0:Nat)(l:List Int)(xs:List Int)(w:World)(hr0:∀W',Bw b g w W'→Kd.C (Kd.int .u64) W' A0 l.length l)(hwf:∀x∈l,0≤x∧x<18446744073709551616)(hbg:b≤g)(hbw:b≤w.heap.size)(hI:IsBuf w b g xs)(hl:xs.length+8*l.length≤140737488355328) :
  Calls Tryz.prog 112 #[.pointer (some ⟨g,0,none⟩),.slice A0 l.length c0] w fun e w'=>(∃v,e=.returned v)∧IsBuf w' b g (xs++l.flatMap (fun x=>leb x 8))∧Bw b g w w':=by
 have HI:=QA hI;clear hI
 go_enter Tryz.func112,Tryz.ntmps112
 go_wp2
 go_loopw [8] (fun i wr=>∃(k:Nat) (iv:Int),k≤l.length∧i=.int .i64 iv∧Aside0 (iv=(k:Int))∧Aside0 (IsBuf wr b g (xs++(l.take k).flatMap (fun x=>leb x 8)))∧Aside0 (Bw b g w wr))
  (fun i _=>l.length-(intOf i).toNat)
 case atStart=>exact⟨0,0,Nat.zero_le _,rfl,⟨rfl⟩,⟨by simpa using HI.out⟩,⟨Bw.refl _ _ _⟩⟩
 case round =>
  obtain⟨k,iv,hk,rfl,HK,HB,HW⟩:=hrel
  by_cases hlt:k<l.length
  ·have hge:0≤iv:=by have:=HK.out;omega
   have hl2:iv<(l.length:Int):=by have:=HK.out;omega
   obtain⟨ad,rfl,a⟩:=Kd.at_int (hr0 wr HW.out) iv hge hl2;obtain⟨x,hx⟩:∃x,x=rd l iv:=⟨_,rfl⟩;rw[← hx]at a;have hxr:0≤x∧x<18446744073709551616:=by rw[hx];exact hwf _ (rd_mem hge hl2)
   have HX:=QA hx;clear hx;have hlen:=QA (show(xs++(l.take k).flatMap (fun x=>leb x 8)).length+8≤140737488355328 by rw[List.length_append,Qkd,List.length_take];omega)
   go_wp2_with (go_at_call 150;refine(Qiz b g x (xs++(l.take k).flatMap (fun x=>leb x 8)) _ hxr.1 hxr.2 hbg (Nat.le_trans hbw HW.out.size) HB.out hlen.out).mono ?_;rintro e w1 ⟨rfl,hd,hb1⟩;have HI1:=QA hd;have c:=QA (HW.out.trans hb1);clear hd hb1)
   go_roundw
   case rel=>exact⟨k+1,iv+1,by omega,by go_num,⟨by have:=HK.out;omega⟩,⟨by
    have e1:iv=(k:Int):=HK.out;rw[Qoh hlt,List.flatMap_append,← List.append_assoc,← e1,← HX.out]
    simpa using HI1.out⟩,⟨c.out⟩⟩
   case measure=>simp[intOf];omega
  ·obtain rfl:k=l.length:=by omega
   obtain rfl:iv=(l.length:Int):=HK.out;go_wp2;go_end0
   refine⟨⟨_,rfl⟩,?_,HW.out⟩
   simpa using HB.out
def ent(x:S129):List Int:=leb x.f0 8++leb x.f1 4
theorem Qkf{l:List S129}{k:Nat}(h:k<l.length):l.take (k+1)=l.take k++[Qil l (k:Int)]:=by
 unfold Qil;rw[List.take_add_one,List.getElem?_eq_getElem h,List.getD_eq_getElem?_getD];simp[List.getElem?_eq_getElem h]
theorem rdT_mem{l:List S129}{i:Int}(h0:0≤i)(h1:i<l.length):Qil l i∈l:=by
 have h:i.toNat<l.length:=by omega
 unfold Qil;rw[List.getD_eq_getElem?_getD,List.getElem?_eq_getElem h];exact List.getElem_mem h
theorem Qkg(l:List S129):(l.flatMap ent).length=12*l.length:=by
 induction l with
 | nil=>rfl
 | cons a l ih=>simp[ent,Qiq,ih];omega
theorem Qkh(b g:Nat)(A0:Option Addr)(c0:Nat)(l:List S129)(xs:List Int)(w:World)(hr0:∀W',Bw b g w W'→Kd.C k129 W' A0 l.length l)(hwf:∀x∈l,(0≤x.f0∧x.f0<18446744073709551616)∧0≤x.f1∧x.f1<4294967296)(hbg:b≤g)(hbw:b≤w.heap.size)(hI:IsBuf w b g xs)(hl:xs.length+12*l.length≤140737488355328) :
  Calls Tryz.prog 111 #[.pointer (some ⟨g,0,none⟩),.slice A0 l.length c0] w fun e w'=>(∃v,e=.returned v)∧IsBuf w' b g (xs++l.flatMap ent)∧Bw b g w w':=by
 have hu:=Tryz.underlying129;have HI:=QA hI;clear hI
 go_enter Tryz.func111,Tryz.ntmps111
 go_wp2
 go_loopw [8] (fun i wr=>∃(k:Nat) (iv:Int),k≤l.length∧i=.int .i64 iv∧Aside0 (iv=(k:Int))∧Aside0 (IsBuf wr b g (xs++(l.take k).flatMap ent))∧Aside0 (Bw b g w wr))
  (fun i _=>l.length-(intOf i).toNat)
 case atStart=>exact⟨0,0,Nat.zero_le _,rfl,⟨rfl⟩,⟨by simpa using HI.out⟩,⟨Bw.refl _ _ _⟩⟩
 case round =>
  obtain⟨k,iv,hk,rfl,HK,HB,HW⟩:=hrel
  by_cases hlt:k<l.length
  ·have hge:0≤iv:=by have:=HK.out;omega
   have hl2:iv<(l.length:Int):=by have:=HK.out;omega
   obtain⟨ad,rfl,a,c⟩:=Qim (hr0 wr HW.out) iv hge hl2;obtain⟨x,hx⟩:∃x,x=Qil l iv:=⟨_,rfl⟩;rw[← hx]at a c;have hxr:=hwf x (by rw[hx];exact rdT_mem hge hl2);have HX:=QA hx;clear hx;have hlen:=QA (show(xs++(l.take k).flatMap ent).length+12≤140737488355328 by rw[List.length_append,Qkg,List.length_take];omega)
   go_upto_region 3 with fail
   obtain⟨B,hBe⟩:∃B,B=wr.heap.size:=⟨_,rfl⟩;obtain⟨W,hW⟩:∃W,W=wr.alloc (.cells #[.int .u64 x.f0,.int .u32 x.f1] 129):=⟨_,rfl⟩;have hBlk:W.heap[B]? = some (.cells #[.int .u64 x.f0,.int .u32 x.f1] 129 (0,0)):=by rw[hW,hBe];exact Qdp wr _
   have hIB:IsBuf W b g (xs++(l.take k).flatMap ent):=by rw[hW];exact HB.out.kept (Qce (Below.refl _ _) _)
   have hBW:Bw b g w W:=by rw[hW];exact HW.out.trans (Bw.below (Qce (Below.refl _ _) _) (Nat.le_trans hbw HW.out.size))
   have hgB:B≠g:=by have:=HB.out.lt;omega
   rw[← hW,← hBe];clear hW hBe a c;have d0:Below W.heap.size W W.drew:=Qcf (Below.refl _ _);have hBlk1:=Qdo hBlk d0;have hIB1:=hIB.kept d0;have hBW1:Bw b g w W.drew:=hBW.trans (Bw.below d0 (Nat.le_trans hbw hBW.size));have c0:W.drew.cell? ⟨B,0,none⟩=some (.int .u64 x.f0):=(Qdb hBlk1 0).trans rfl;have c1:W.drew.cell? ⟨B,1,none⟩=some (.int .u32 x.f1):=(Qdb hBlk1 1).trans rfl;have hs1:b≤W.drew.heap.size:=Nat.le_trans hbw hBW1.size
   go_region_held3 (fun w'=>w'.cell? ⟨B,0,none⟩=some (.int .u64 x.f0)∧w'.cell? ⟨B,1,none⟩=some (.int .u32 x.f1)) (first|exact⟨c0,c1⟩|exact⟨c2,c3⟩|exact⟨c4,c5⟩) (first |(go_at_call 150;refine(Qiz b g x.f0 (xs++(l.take k).flatMap ent) W.drew hxr.1.1 hxr.1.2 hbg hs1 hIB1 (by have:=hlen.out;omega)).mono ?_;rintro e w2 ⟨rfl,hI2,hb2⟩;have hBlk2:=hb2.2 _ _ _ hBlk1 (by decide) hgB;have c2:w2.cell? ⟨B,0,none⟩=some (.int .u64 x.f0):=(Qdb hBlk2 0).trans rfl;have c3:w2.cell? ⟨B,1,none⟩=some (.int .u32 x.f1):=(Qdb hBlk2 1).trans rfl) |(go_at_call 110;refine(Qiy b g x.f1 (xs++(l.take k).flatMap ent++leb x.f0 8) w2 hxr.2.1 hxr.2.2 hbg (Nat.le_trans hs1 hb2.size) hI2 (by have:=hlen.out;simp[Qiq]at this ⊢;omega)).mono ?_;rintro e w3 ⟨rfl,hI3,hb3⟩;have hBlk3:=hb3.2 _ _ _ hBlk2 (by decide) hgB;have c4:w3.cell? ⟨B,0,none⟩=some (.int .u64 x.f0):=(Qdb hBlk3 0).trans rfl;have c5:w3.cell? ⟨B,1,none⟩=some (.int .u32 x.f1):=(Qdb hBlk3 1).trans rfl))
   have HI3:=QA hI3;have d:=QA (hBW1.trans (hb2.trans hb3));clear hI3 hI2 hb2 hb3 c0 c1 c2 c3 c4 c5 hBlk hBlk1 hBlk2 hBlk3 hIB hIB1 hBW hBW1;go_wp2
   go_roundw
   case rel=>exact⟨k+1,iv+1,by omega,by go_num,⟨by have:=HK.out;omega⟩,⟨by
    have e1:iv=(k:Int):=HK.out;rw[Qkf hlt,List.flatMap_append,← List.append_assoc,← e1,← HX.out]
    simpa [ent]using HI3.out⟩,⟨d.out⟩⟩
   case measure=>simp[intOf];omega
  ·obtain rfl:k=l.length:=by omega
   obtain rfl:iv=(l.length:Int):=HK.out;go_wp2;go_end0
   refine⟨⟨_,rfl⟩,?_,HW.out⟩
   simpa using HB.out
def chk(d:Bool)(key v:ByteArray):Int:=if key.toList=([]:List UInt8)then 4 else if(key.size:Int) > 4096 then 3 else if(d && (v.toList != ([]:List UInt8)))=true then 4 else if(v.size:Int) > 1048576 then 3 else 0
theorem Qki(d:Bool)(s:Int)(key v:ByteArray):Qbt.f 1 d s key v=some (chk d key v):=by
 unfold Qbt.f chk;split
 ·rfl
 split
 ·rfl
 cases d
 ·simp only[Bool.false_eq_true,if_false,Bool.false_and,Qbt.j0];split<;>rfl
 ·simp only[if_true,Bool.true_and,Qbt.j0];split
  ·rfl
  ·split<;>rfl
theorem Qkj{d:Bool}{key v:ByteArray}(h:chk d key v=0):key.size≤4096∧v.size≤1048576:=by
 unfold chk at h
 repeat' split at h
 all_goals first|omega|skip
def Qkk(d:Bool)(s:Int)(key v:ByteArray):List Int:=[if d then 3 else 2]++vput 9 s++(vput 9 key.size++bytesOf key)++(if d then []else vput 9 v.size++bytesOf v)
def Qbs.f(a0_0:Bool)(a0_1:Int)(a0_2:ByteArray)(a0_3:ByteArray):Option (List Int × Int) :=
 if 0≤a0_1 then if a0_1<18446744073709551616 then some (if chk a0_0 a0_2 a0_3=0 then(Qkk a0_0 a0_1 a0_2 a0_3,0)else([],chk a0_0 a0_2 a0_3))else none else none
theorem IsBuf.new(w:World)(b:Nat):IsBuf (w.alloc (.cells #[.slice none 0 0] 184)) b w.heap.size []:=⟨_,Qdp w _,Kd.R_nil _ _ _ _ _⟩
theorem box4{W:World}{B:Nat}{d:Bool}{s:Int}{key v:ByteArray}(h:W.heap[B]? = some (.cells #[.bool d,.int .u64 s,.string key,.string v] 37 (0,0))) :
  W.cell? ⟨B,0,none⟩=some (.bool d)∧W.cell? ⟨B,1,none⟩=some (.int .u64 s)∧W.cell? ⟨B,2,none⟩=some (.string key)∧W.cell? ⟨B,3,none⟩=some (.string v) :=
 ⟨(Qdb h 0).trans rfl,(Qdb h 1).trans rfl,(Qdb h 2).trans rfl,(Qdb h 3).trans rfl⟩
theorem body_of(d:Bool)(s:Int)(key v:ByteArray)(w:World)(hs0:0≤s)(hs1:s<18446744073709551616)(hc:chk d key v=0) :
  Calls Tryz.prog 105 #[.agg #[.bool d,.int .u64 s,.string key,.string v]] w fun e w'=>∃a:Value,e=.returned (.tuple #[a,.int .i64 0])∧R8 w' w.heap.size a (Qkk d s key v)∧Below w.heap.size w w':=by
 have hu:=Tryz.underlying37;obtain⟨hk,hv⟩:=Qkj hc;have hl1:=Qjy 9 s;have hl2:=Qjy 9 key.size;have hl3:=Qjy 9 v.size;have hkl:=Qcp key;have hvl:=Qcp v;have hcheck:=Qki d s key v;rw[hc]at hcheck;have HC:=QA hcheck;clear hcheck hc;have hba:Below w.heap.size w (w.alloc (.cells #[.bool d,.int .u64 s,.string key,.string v] 37)):=Qce (Below.refl _ _) _;have hbn:=Qdp w (.cells #[.bool d,.int .u64 s,.string key,.string v] 37)
 cases d
 all_goals
  go_enter Tryz.func105,Tryz.ntmps105
  go_wp2_with (first
   |(go_at_call 58;refine(Qbt.calls 1 _ s key v 0 _ HC.out).mono ?_;rintro e w1 ⟨rfl,hb1⟩;have hk1:=Qdo hbn hb1;obtain⟨c0,c1,c2,c3⟩:=box4 hk1;have hw1:=QA (Qch hba hba.size hb1);have hs1':=QA (show w.heap.size<w1.heap.size from Qda hk1);have HI1:=QA (IsBuf.new w1 w.heap.size);have hk1':=Qdl hk1 (.cells #[.slice none 0 0] 184);obtain⟨b,c,g,h⟩:=box4 hk1';clear hk1 hb1 hbn hba)
   |(go_at_call 101;refine(Qiw w.heap.size w1.heap.size _ [] _ (by decide) (by decide) (Nat.le_of_lt hs1'.out) (by rw[World.size_alloc];have:=hs1'.out;omega) HI1.out (by simp)).mono ?_;rintro e w2 ⟨rfl,hI2,hb2⟩;have hk2:=hb2.2 _ _ _ hk1' (by decide) (Nat.ne_of_lt hs1'.out);obtain⟨d0,d1,d2,d3⟩:=box4 hk2;have HI2:=QA hI2;have hs2:=QA hb2.size;clear hI2 c0 c1 c2 c3 b c g h)
   |(go_at_call 102;refine(Qjz w.heap.size w1.heap.size s _ _ hs0 hs1 (Nat.le_of_lt hs1'.out) (by have:=hs1'.out;have:=hs2.out;simp at this;omega) HI2.out (by simp)).mono ?_;rintro e w3 ⟨⟨_,rfl⟩,hI3,hb3⟩;have hk3:=hb3.2 _ _ _ hk2 (by decide) (Nat.ne_of_lt hs1'.out);obtain⟨e0,e1,e2,e3⟩:=box4 hk3;have HI3:=QA hI3;have hs3:=QA (Nat.le_trans hs2.out hb3.size);clear hI3 d0 d1 d2 d3)
   |(go_at_call_of 152 key;refine(Qkb w.heap.size w1.heap.size key _ _ (by omega) (Nat.le_of_lt hs1'.out) (by have:=hs1'.out;have:=hs3.out;simp at this;omega) HI3.out (by simp;omega)).mono ?_;rintro e w4 ⟨⟨_,rfl⟩,hI4,hb4⟩;have hk4:=hb4.2 _ _ _ hk3 (by decide) (Nat.ne_of_lt hs1'.out);obtain⟨f0,f1,f2,f3⟩:=box4 hk4;have HI4:=QA hI4;have hs4:=QA (Nat.le_trans hs3.out hb4.size);clear hI4 e0 e1 e2 e3)
   |(go_at_call_of 152 v;refine(Qkb w.heap.size w1.heap.size v _ _ (by omega) (Nat.le_of_lt hs1'.out) (by have:=hs1'.out;have:=hs4.out;simp at this;omega) HI4.out (by simp;omega)).mono ?_;rintro e w5 ⟨⟨_,rfl⟩,hI5,hb5⟩;have HI5:=QA hI5;have hs5:=QA (Nat.le_trans hs4.out hb5.size))
   |(go_at_call 104;first |(refine(Qjd w.heap.size w1.heap.size _ _ HI5.out (by simp;omega)).mono ?_;rintro e w6 ⟨vv,rfl,hR6,hb6⟩) |(refine(Qjd w.heap.size w1.heap.size _ _ HI4.out (by simp;omega)).mono ?_;rintro e w6 ⟨vv,rfl,hR6,hb6⟩)))
 ·refine bodyPost_ret (results_tmp2 rfl _ _ _) rfl ?_;have hsz:=hs5.out;simp at hsz;have:=hs1'.out;refine⟨vv,rfl,?_,(((((hw1.out.trans (Qis (Qce (Below.refl _ _) _) (Nat.le_of_lt hs1'.out))).trans hb2.1).trans hb3.1).trans hb4.1).trans hb5.1).trans (Qis hb6 (by omega))⟩;have e:Qkk false s key v=[]++[2]++vput 9 s++(vput 9 key.size++bytesOf key)++(vput 9 v.size++bytesOf v):=by simp[Qkk]
  rw[e];exact hR6.low (by omega)
 ·refine bodyPost_ret (results_tmp2 rfl _ _ _) rfl ?_;have hsz:=hs4.out;simp at hsz;have:=hs1'.out;refine⟨vv,rfl,?_,((((hw1.out.trans (Qis (Qce (Below.refl _ _) _) (Nat.le_of_lt hs1'.out))).trans hb2.1).trans hb3.1).trans hb4.1).trans (Qis hb6 (by omega))⟩;have e:Qkk true s key v=[]++[3]++vput 9 s++(vput 9 key.size++bytesOf key):=by simp[Qkk]
  rw[e];exact hR6.low (by omega)
theorem Qkl(d:Bool)(s:Int)(key v:ByteArray)(w:World)(c:Int)(hc:chk d key v=c)(hn:c≠0) :
  Calls Tryz.prog 105 #[.agg #[.bool d,.int .u64 s,.string key,.string v]] w fun e w'=>∃v0_:Value,e=.returned (.tuple #[v0_,.int .i64 c])∧R8 w' w.heap.size v0_ []∧Below w.heap.size w w':=by
 have hu:=Tryz.underlying37;have hcheck:=Qki d s key v;rw[hc]at hcheck;have HC:=QA hcheck;have hn1:(c == 0)=false:=by simpa using hn
 have hn2:(c != 0)=true:=by simpa using hn
 clear hcheck hc;have hba:Below w.heap.size w (w.alloc (.cells #[.bool d,.int .u64 s,.string key,.string v] 37)):=Qce (Below.refl _ _) _
 go_enter Tryz.func105,Tryz.ntmps105
 go_wp2_with (go_at_call 58;refine(Qbt.calls 1 _ s key v c _ HC.out).mono ?_;rintro e w1 ⟨rfl,hb1⟩)
 refine bodyPost_ret (results_tmp2 rfl _ _ _) rfl ?_;exact⟨_,rfl,Kd.R_nil _ _ _ _ _,Qch hba hba.size hb1⟩
theorem Qbs.calls(a0_0:Bool)(a0_1:Int)(a0_2:ByteArray)(a0_3:ByteArray)(r1:List Int)(r2:Int)(w:World)(h:Qbs.f a0_0 a0_1 a0_2 a0_3=some (r1,r2)) :
  Calls Tryz.prog 105 #[.agg #[.bool a0_0,.int .u64 a0_1,.string a0_2,.string a0_3]] w fun e w'=>∃v0_:Value,e=.returned (.tuple #[v0_,.int .i64 r2])∧Kd.R (Kd.int .u8) 5 w' w.heap.size (fun _=>True) v0_ r1∧Below w.heap.size w w':=by
 unfold Qbs.f at h
 by_cases h0:0≤a0_1
 ·by_cases h1:a0_1<18446744073709551616
  ·rw[if_pos h0,if_pos h1]at h
   by_cases h2:chk a0_0 a0_2 a0_3=0
   ·rw[if_pos h2]at h
    cases h
    exact body_of _ _ _ _ w h0 h1 h2
   ·rw[if_neg h2]at h
    cases h
    exact Qkl _ _ _ _ w _ rfl h2
  ·rw[if_pos h0,if_neg h1]at h;cases h
 ·rw[if_neg h0]at h;cases h
theorem Qkv(a0:Int)(A1:Option Addr)(c1:Nat)(l1:List Int)(w:World)(hr1:Kd.C (Kd.int .u8) w A1 l1.length l1)(hl:l1.length≤140737488355328) :
  Calls Tryz.prog 107 #[.int .u64 a0,.slice A1 l1.length c1] w fun e w'=>e=.returned (.int .u64 (Qkt a0 l1))∧Below w.heap.size w w':=by
 go_enter Tryz.func107,Tryz.ntmps107
 go_wp2_with (first |(go_at_call 154;refine(st_New a0 w).mono ?_;rintro e w1 ⟨rfl,⟨rv,hv,hR⟩,hb1⟩;have hv1:StAt w1 w.heap.size a0 (IntKind.u64.wrap (IntKind.u64.wrap (a0+Q1)+Q2),IntKind.u64.wrap (a0+Q2),a0,IntKind.u64.wrap (a0-Q1)) rv 0:=hv;have hr:=Kd.C_below hr1 hb1;have hf:=Kd.far_C (0:Int) hr1 (Nat.le_refl w.heap.size)) |(go_at_call 155;refine(Qku w.heap.size w.heap.size a0 _ rv A1 c1 l1 w1 hr hf hv1 hR (Nat.le_refl _) hb1.size hl).mono ?_;rintro e w2 ⟨rfl,⟨rv2,hv2,hR2⟩,hb2⟩) |(go_at_call 156;refine(st_Sum w.heap.size w.heap.size a0 _ rv2 _ _ w2 hv2 (Kd.Q_of_R hR2)).mono ?_;rintro e w3 ⟨rfl,hb3⟩))
 go_ret
 exact⟨rfl,(hb1.trans hb2).trans (Qis hb3 (Nat.le_trans hb1.size hb2.size))⟩
theorem sum_of'(a0:Int)(A1:Option Addr)(c1 n:Nat)(l1:List Int)(w:World)(hn:n=l1.length)(hr1:Kd.C (Kd.int .u8) w A1 n l1)(hl:n≤140737488355328) :
  Calls Tryz.prog 107 #[.int .u64 a0,.slice A1 n c1] w fun e w'=>e=.returned (.int .u64 (Qkt a0 l1))∧Below w.heap.size w w':=by
 subst hn;exact Qkv a0 A1 c1 l1 w hr1 hl
theorem Qkw(s:ByteArray)(w:World)(hl:s.size≤140737488355328) :
  Calls Tryz.prog 62 #[.string s] w fun e w'=>e=.returned (.int .u64 (Qkt 0 (bytesOf s)))∧Below w.heap.size w w':=by
 have kb:=fun W=>Qcq (P:=Tryz.prog) 9 40 5 Tryz.underlying9 Tryz.underlying40 Tryz.underlying5 s W
 have hbb:=Qcs (Below.refl w.heap.size w) (Nat.le_refl _) 5 s
 go_enter Tryz.func62,Tryz.ntmps62
 go_wp2_with (go_at_call 107;refine(sum_of' 0 _ _ s.size (bytesOf s) (Lib.bytesWorld w 5 s) (Qcp s).symm (Qka w s (by omega)) hl).mono ?_;rintro e w1 ⟨rfl,hb1⟩)
 go_ret
 exact⟨rfl,Qch hbb hbb.size hb1⟩
theorem Qkx(x:Int):0≤IntKind.u64.wrap x∧IntKind.u64.wrap x<18446744073709551616:=by
 simp[IntKind.wrap,IntKind.signed,IntKind.bits];omega
theorem Qky(op:BinOp)(x y:Int):0≤Go.bits op .u64 x y∧Go.bits op .u64 x y<18446744073709551616:=by
 unfold Go.bits;split<;>exact Qkx _
theorem Qkz(sd:Int)(l:List Int):0≤Qkt sd l∧Qkt sd l<18446744073709551616:=by
 unfold Qkt sumP finP;split<;>exact Qky _ _ _
def Qla(b:List Int):List Int:=Qjq (b++leb (Qkt 0 b) 8)++[0]
theorem Qlb:∀(n:Nat) (b:List Int),b.length≤n→(Qjq b).length≤2*b.length+1
 | n,b,h=>by
  rcases Int.lt_or_le (ixOf (b.take 254) 0) 0 with h0|h0
  ·by_cases hl:254<b.length
   ·rw[Qju h0 hl];have hd:(b.drop 254).length<b.length:=by rw[List.length_drop];omega
    cases n with
    | zero=>omega
    | succ n =>
     have:=Qlb n (b.drop 254) (by omega);simp only[List.length_cons,List.length_append,List.length_take,List.length_drop]at this ⊢;omega
   ·rw[Qjv h0 hl];simp;omega
  ·obtain⟨p,hp⟩:=Int.eq_ofNat_of_zero_le h0;have h1:=(Qjo (b.take 254) 0).2;rw[hp,List.length_take]at h1;rw[Qjt hp]
   cases n with
   | zero=>omega
   | succ n =>
    have:=Qlb n (b.drop (p+1)) qq_24;simp only[List.length_cons,List.length_append,List.length_take,List.length_drop]at this ⊢;omega
theorem R8.reads{W:World}{b:Nat}{v:Value}{xs:List Int}(h:R8 W b v xs):∃A n c,v=.slice A n c∧Aside0 (n=xs.length)∧n≤c∧Kd.C (Kd.int .u8) W A n xs:=by
 obtain⟨A,c,e,h1,h2⟩:=Kd.R_reads h;exact⟨A,_,c,e,⟨rfl⟩,h1,h2⟩
theorem Qlc(A:Option Addr)(n c:Nat)(l:List Int)(w:World)(hC:Kd.C (Kd.int .u8) w A n l)(hc:n≤c)(hl:l.length≤35184372088832) :
  Calls Tryz.prog 151 #[.slice A n c] w fun e w'=>∃v0_:Value,e=.returned (v0_)∧R8 w' w.heap.size v0_ (Qjq l)∧Below w.heap.size w w':=by
 have hn:=hC.1;subst hn;exact Qjw A c l w hC hc hl
theorem Qld(l:List Int):([]++l++leb (Qkt 0 l) 8).length=l.length+8:=by simp[Qiq]
theorem Qle(A0:Option Addr)(c0:Nat)(l0:List Int)(w:World)(hr0:Kd.C (Kd.int .u8) w A0 l0.length l0)(hl:l0.length≤35184372088824) :
  Calls Tryz.prog 103 #[.slice A0 l0.length c0] w fun e w'=>∃a:Value,e=.returned (a)∧R8 w' w.heap.size a (Qla l0)∧Below w.heap.size w w':=by
 have hI0:=QA (IsBuf.new w w.heap.size);have hb0:Below w.heap.size w (w.alloc (.cells #[.slice none 0 0] 184)):=Qce (Below.refl _ _) _;have hz0:w.heap.size≤(w.alloc (.cells #[.slice none 0 0] 184)).heap.size:=hb0.size;have hC0:=Kd.C_below hr0 hb0;have hh:=Qkz 0 l0
 go_enter Tryz.func103,Tryz.ntmps103
 go_wp2_with (first
  |(go_at_call 149;refine(Qjb w.heap.size w.heap.size A0 c0 l0 [] _ hC0 (Nat.le_refl _) hz0 hI0.out (by simp;omega)).mono ?_;rintro e w1 ⟨rfl,hI1,hb1⟩;have hC1:=Kd.C_below hr0 (hb0.trans hb1.1))
  |(go_at_call 107;refine(Qkv 0 A0 c0 l0 w1 hC1 (by omega)).mono ?_;rintro e w2 ⟨rfl,hb2⟩;have hI2:=hI1.kept hb2)
  |(go_at_call 150;refine(Qiz w.heap.size w.heap.size _ _ w2 hh.1 hh.2 (Nat.le_refl _) (Nat.le_trans (Nat.le_trans hz0 hb1.size) hb2.size) hI2 (by simp;omega)).mono ?_;rintro e w3 ⟨rfl,hI3,hb3⟩)
  |(go_at_call 104;refine(Qjd w.heap.size w.heap.size _ w3 hI3 (by rw[Qld];omega)).mono ?_;rintro e w4 ⟨v4,rfl,hR4,hb4⟩;obtain⟨A4,n4,c4,rfl,d,hlc4,hC4⟩:=R8.reads hR4)
  |(go_at_call 151;refine(Qlc A4 n4 c4 _ w4 hC4 hlc4 (by rw[Qld];omega)).mono ?_;rintro e w5 ⟨v5,rfl,hR5,hb5⟩;have b:=QA hR5;have hz5:w.heap.size≤w5.heap.size:=Nat.le_trans (Nat.le_trans (Nat.le_trans (Nat.le_trans (Nat.le_trans hz0 hb1.size) hb2.size) hb3.size) hb4.size) hb5.size;have hB5:=QA (show Below w.heap.size w w5 from((((hb0.trans hb1.1).trans (Qis hb2 (Nat.le_trans hz0 hb1.size))).trans hb3.1).trans (Qis hb4 (Nat.le_trans (Nat.le_trans (Nat.le_trans hz0 hb1.size) hb2.size) hb3.size))).trans (Qis hb5 (Nat.le_trans (Nat.le_trans (Nat.le_trans (Nat.le_trans hz0 hb1.size) hb2.size) hb3.size) hb4.size)));clear hR5)
  |(at_builtin;refine Kd.R_append (Kd.int .u8) (w0:=w) w.heap.size rfl (.tmp 10) (.tmp 11) 40 5 (.int .u8 0) 1 rfl Tryz.underlying40 Qia rfl (by decide) (by omega) v5 (Qjq ([]++l0++leb (Qkt 0 l0) 8)) 0 [.int .u8 0] (fun _=>True) (fun _=>False) rfl ?ax ?aP (fun _ hk=>hk.elim) ?aF ?aO ?aB ?aS ?aL ?_;(case ax=>rfl);(case aP=>rfl);(case aF=>exact fun _ _=>trivial);(case aO=>exact b.out.low (Nat.le_trans (Nat.le_trans (Nat.le_trans (Nat.le_trans hz0 hb1.size) hb2.size) hb3.size) hb4.size));(case aB=>exact hB5.out);(case aS=>exact hz5);(case aL=>have:=Qlb _ ([]++l0++leb (Qkt 0 l0) 8) (Nat.le_refl _);rw[Qld]at this;omega);intro v6 w6 c hb6 g hat6))
 go_ret
 exact⟨v6,rfl,c,hb6⟩
def Qbh.f(l0:List Int):Option (List Int):=if l0.length≤35184372088824 then some (Qla l0)else none
theorem Qbh.calls(A0:Option Addr)(c0:Nat)(l0:List Int)(r:List Int)(w:World)(hr0:Kd.C (Kd.int .u8) w A0 l0.length l0)(hc0:l0.length≤c0)(h:Qbh.f l0=some r) :
  Calls Tryz.prog 103 #[.slice A0 l0.length c0] w fun e w'=>∃v0_:Value,e=.returned (v0_)∧Kd.R (Kd.int .u8) 5 w' w.heap.size (fun _=>True) v0_ r∧Below w.heap.size w w':=by
 unfold Qbh.f at h
 by_cases hl:l0.length≤35184372088824
 ·rw[if_pos hl]at h
  cases h
  exact Qle A0 c0 l0 w hr0 hl
 ·rw[if_neg hl]at h;cases h
def Qlf(e s n:Int):List Int:=Qla ([1,2,e]++vput 9 s++vput 9 n)
def Qbf.f(a0_0 a0_1 a1:Int):Option (List Int × Int) :=
 (Qbj.f a0_0 a0_1 a1).bind fun e=>if e=0 then(if 0≤a0_0∧a0_0<256∧0≤a0_1∧a0_1<4294967296∧0≤a1∧a1<4294967296 then some (Qlf a0_0 a0_1 a1,0)else none)else some ([],e)
theorem Qlg(A:Option Addr)(n c:Nat)(l:List Int)(w:World)(hC:Kd.C (Kd.int .u8) w A n l)(hl:l.length≤35184372088824) :
  Calls Tryz.prog 103 #[.slice A n c] w fun e w'=>∃v0_:Value,e=.returned (v0_)∧R8 w' w.heap.size v0_ (Qla l)∧Below w.heap.size w w':=by
 have hn:=hC.1;subst hn;exact Qle A c l w hC hl
theorem box2{W:World}{B:Nat}{e s:Int}(h:W.heap[B]? = some (.cells #[.int .u8 e,.int .u32 s] 28 (0,0))):W.cell? ⟨B,0,none⟩=some (.int .u8 e)∧W.cell? ⟨B,1,none⟩=some (.int .u32 s) :=
 ⟨(Qdb h 0).trans rfl,(Qdb h 1).trans rfl⟩
theorem head_of(e s n:Int)(w:World)(hc:Qbj.f e s n=some 0)(he0:0≤e)(he1:e<256)(hs0:0≤s)(hs1:s<4294967296)(b:0≤n)(d:n<4294967296) :
  Calls Tryz.prog 57 #[.agg #[.int .u8 e,.int .u32 s],.int .u32 n] w fun ee w'=>∃a:Value,ee=.returned (.tuple #[a,.int .i64 0])∧R8 w' w.heap.size a (Qlf e s n)∧Below w.heap.size w w':=by
 have hu:=Tryz.underlying28;have hl1:=Qjy 9 s;have hl2:=Qjy 9 n;have HC:=QA hc;clear hc;have hba:Below w.heap.size w (w.alloc (.cells #[.int .u8 e,.int .u32 s] 28)):=Qce (Below.refl _ _) _;have hbn:=Qdp w (.cells #[.int .u8 e,.int .u32 s] 28)
 go_enter Tryz.func57,Tryz.ntmps57
 go_wp2_with (first
  |(go_at_call 100;refine(Qbj.calls e s n 0 _ HC.out).mono ?_;rintro ee w1 ⟨rfl,hb1⟩;have hk1:=Qdo hbn hb1;have hw1:=QA (Qch hba hba.size hb1);have hs1':=QA (show w.heap.size<w1.heap.size from Qda hk1);have HI1:=QA (IsBuf.new w1 w.heap.size);have hk1':=Qdl hk1 (.cells #[.slice none 0 0] 184);obtain⟨c0,c1⟩:=box2 hk1';clear hk1 hb1 hbn hba))
 obtain⟨W,hW⟩:∃W,W=w1.alloc (.cells #[.slice none 0 0] 184):=⟨_,rfl⟩;have hbW:Below w1.heap.size w1 W:=by rw[hW];exact Qce (Below.refl _ _) _
 rw[← hW]at hk1' c0 c1 HI1 ⊢;clear hW;have hkd:=Qdo hk1' (Qcf (Below.refl W.heap.size W));have hId:=HI1.out.kept (Qcf (Below.refl W.heap.size W));obtain⟨j0,j1⟩:=box2 hkd;have hg:=Nat.le_of_lt hs1'.out;have hzd:w.heap.size≤W.drew.heap.size:=Nat.le_trans hg hbW.size;have hne:=Nat.ne_of_lt hs1'.out
 go_region_held3 (fun w'=>w'.cell? ⟨w.heap.size,0,none⟩=some (.int .u8 e)∧w'.cell? ⟨w.heap.size,1,none⟩=some (.int .u32 s)) (first|exact⟨j0,j1⟩|exact⟨i0,i1⟩|exact⟨i2,i3⟩|exact⟨i4,i5⟩) (first
  |(go_at_call_of 101 (Value.int .u8 1);refine(Qiw w.heap.size w1.heap.size 1 [] W.drew (by decide) (by decide) hg hzd hId (by simp)).mono ?_;rintro ee w2 ⟨rfl,hI2,hb2⟩;have hk2:=hb2.2 _ _ _ hkd (by decide) hne;obtain⟨i0,i1⟩:=box2 hk2)
  |(go_at_call_of 101 (Value.int .u8 2);refine(Qiw w.heap.size w1.heap.size 2 ([]++[1]) w2 (by decide) (by decide) hg (Nat.le_trans hzd hb2.size) hI2 (by simp)).mono ?_;rintro ee w3 ⟨rfl,hI3,hb3⟩;have hk3:=hb3.2 _ _ _ hk2 (by decide) hne;obtain⟨i2,i3⟩:=box2 hk3)
  |(go_at_call_of 101 (Value.int .u8 e);refine(Qiw w.heap.size w1.heap.size e ([]++[1]++[2]) w3 he0 he1 hg (Nat.le_trans (Nat.le_trans hzd hb2.size) hb3.size) hI3 (by simp)).mono ?_;rintro ee w4 ⟨rfl,hI4,hb4⟩;have hk4:=hb4.2 _ _ _ hk3 (by decide) hne;obtain⟨i4,i5⟩:=box2 hk4))
 have hz4:w.heap.size≤w4.heap.size:=Nat.le_trans (Nat.le_trans (Nat.le_trans hzd hb2.size) hb3.size) hb4.size;have c:=QA (show Below w.heap.size w w4 from((((hw1.out.trans (Qis hbW hg)).trans (Qis (Qcf (Below.refl W.heap.size W)) (Nat.le_trans hg hbW.size))).trans hb2.1).trans hb3.1).trans hb4.1);clear i0 i1 i2 i3 j0 j1 hk2 hk3 hb2 hb3 hb4 hI2 hI3 hkd hId
 go_wp2_with (first
  |(go_at_call_of 102 (Value.int .u64 s);refine(Qjz w.heap.size w1.heap.size s _ w4 hs0 (by omega) hg hz4 hI4 (by simp)).mono ?_;rintro ee w5 ⟨⟨_,rfl⟩,hI5,hb5⟩)
  |(go_at_call_of 102 (Value.int .u64 n);refine(Qjz w.heap.size w1.heap.size n _ w5 b (by omega) hg (Nat.le_trans hz4 hb5.size) hI5 (by simp;omega)).mono ?_;rintro ee w6 ⟨⟨_,rfl⟩,hI6,hb6⟩)
  |(go_at_call 104;refine(Qjd w.heap.size w1.heap.size _ w6 hI6 (by simp;omega)).mono ?_;rintro ee w7 ⟨v7,rfl,hR7,hb7⟩;obtain⟨A7,n7,c7,rfl,g,hlc7,hC7⟩:=R8.reads hR7)
  |(go_at_call 103;refine(Qlg A7 n7 c7 _ w7 hC7 (by simp;omega)).mono ?_;rintro ee w8 ⟨v8,rfl,hR8,hb8⟩))
 refine bodyPost_ret (results_tmp2 rfl _ _ _) rfl ?_;have hz6:w.heap.size≤w6.heap.size:=Nat.le_trans (Nat.le_trans hz4 hb5.size) hb6.size;have hz7:w.heap.size≤w7.heap.size:=Nat.le_trans hz6 hb7.size;exact⟨v8,rfl,R8.low hR8 hz7,(((c.out.trans hb5.1).trans hb6.1).trans (Qis hb7 hz6)).trans (Qis hb8 hz7)⟩
theorem Qlh(e s n c:Int)(w:World)(hc:Qbj.f e s n=some c)(hn:c≠0) :
  Calls Tryz.prog 57 #[.agg #[.int .u8 e,.int .u32 s],.int .u32 n] w fun ee w'=>∃v0_:Value,ee=.returned (.tuple #[v0_,.int .i64 c])∧R8 w' w.heap.size v0_ []∧Below w.heap.size w w':=by
 have hu:=Tryz.underlying28;have HC:=QA hc;clear hc;have hn1:(c == 0)=false:=by simpa using hn
 have hn2:(c != 0)=true:=by simpa using hn
 have hba:Below w.heap.size w (w.alloc (.cells #[.int .u8 e,.int .u32 s] 28)):=Qce (Below.refl _ _) _
 go_enter Tryz.func57,Tryz.ntmps57
 go_wp2_with (go_at_call 100;refine(Qbj.calls e s n c _ HC.out).mono ?_;rintro ee w1 ⟨rfl,hb1⟩)
 refine bodyPost_ret (results_tmp2 rfl _ _ _) rfl ?_;exact⟨_,rfl,Kd.R_nil _ _ _ _ _,Qch hba hba.size hb1⟩
theorem Qbf.calls(a0_0 a0_1 a1:Int)(r1:List Int)(r2:Int)(w:World)(h:Qbf.f a0_0 a0_1 a1=some (r1,r2)) :
  Calls Tryz.prog 57 #[.agg #[.int .u8 a0_0,.int .u32 a0_1],.int .u32 a1] w fun e w'=>∃v0_:Value,e=.returned (.tuple #[v0_,.int .i64 r2])∧Kd.R (Kd.int .u8) 5 w' w.heap.size (fun _=>True) v0_ r1∧Below w.heap.size w w':=by
 unfold Qbf.f at h;obtain⟨c,hc,h⟩:=Option.bind_eq_some_iff.mp h
 by_cases h0:c=0
 ·subst h0;rw[if_pos rfl]at h
  by_cases h1:0≤a0_0∧a0_0<256∧0≤a0_1∧a0_1<4294967296∧0≤a1∧a1<4294967296
  ·rw[if_pos h1]at h
   cases h
   exact head_of _ _ _ w hc h1.1 h1.2.1 h1.2.2.1 h1.2.2.2.1 h1.2.2.2.2.1 h1.2.2.2.2.2
  ·rw[if_neg h1]at h;cases h
 ·rw[if_neg h0]at h
  cases h
  exact Qlh _ _ _ _ w hc h0
end Go.Proofs.YteaocbonofboeaaGreat.C
end
section
namespace Go.Proofs.YteaocbonofboeaaGreat.C
open Go.RowKit Go.Proofs.YteaocbonofboeaaGreatW.PrintWords Go.Proofs.YteaocbonofboeaaGreatW.PrintLast Go.Proofs.YteaocbonofboeaaGreatW.PrintMore
attribute [local go_sem] Qhl Qhm Qhn Qho Qhp Qhq Qhr Qhs
def Qbg.f(a0_0:Bool)(a0_1:Int)(a0_2:ByteArray)(a0_3:ByteArray):Option (List Int × Int):=(Qbs.f a0_0 a0_1 a0_2 a0_3).bind fun bt179=>(if bt179.2=0 then((Qbh.f bt179.1).bind fun t183=>(some (t183,0)))else(some (([]:List Int),bt179.2)))
theorem Qbg.calls(b:Bool)(c:Int)(d:ByteArray)(j:ByteArray)(r1:List Int)(r2:Int)(w:World)(h:Qbg.f b c d j=some (r1,r2)) :
  Calls Tryz.prog 59 #[.agg #[.bool b,.int .u64 c,.string d,.string j]] w fun e w'=>∃u:Value,e=.returned (.tuple #[u,.int .i64 r2])∧Kd.R (Kd.int .u8) 5 w' w.heap.size (fun _=>True) u r1∧Below w.heap.size w w':=by
 have hu37:=Tryz.underlying37;have HB:=QA (Below.refl w.heap.size w);have H:((Qbs.f b c d j).bind fun bt179=>(if bt179.2=0 then((Qbh.f bt179.1).bind fun p=>(some (p,0)))else(some (([]:List Int),bt179.2))))=some (r1,r2):=h;clear h;replace H:=Option.bind_eq_some_iff.mp H;obtain⟨⟨q,l⟩,v,H⟩:=H;replace H:(if l=0 then((Qbh.f q).bind fun p=>(some (p,0)))else(some (([]:List Int),l)))=some (r1,r2):=H;have A2:=QA v;clear v
 by_cases c3:l=0
 ·rw[if_pos c3]at H;have y:(l == 0)=true:=beq_iff_eq.mpr c3;have z:(l != 0)=false:=bne_eq_false_iff_eq.mpr c3;clear c3;replace H:=Option.bind_eq_some_iff.mp H;obtain⟨p,x,H⟩:=H;have A4:=QA x;clear x;simp only[Option.some.injEq,Prod.mk.injEq]at H;obtain⟨rfl,rfl⟩:=H
  go_enter Tryz.func59,Tryz.ntmps59
  go_wp2_with (first |((with_reducible refine Qey (N:=1) rfl ?_);refine qq_e 1 #[.bool b,.int .u64 c,.string d,.string j] 37 ?_;intro k hg w5 hbox hb;have n_:=qn4 (Qeo qq_b hb) (hbox) (qq_s hg:w.heap.size≤k) (qq_s hg:w.heap.size≤k);clear HB;obtain⟨HB,a,r,s⟩:=n_;clear hb hbox hg;obtain⟨I,J,K,L⟩:=qc4 a.out;have O:=Qdc a.out) |((with_reducible refine Qht (f:=105) rfl ?_);refine Qft (some 8) rfl rfl Tryz.func105 qq_4 rfl #[.agg #[.bool b,.int .u64 c,.string d,.string j]] rfl qq_1 ?_;(with_reducible refine(Qbs.calls b c d j q l _ A2.out).mono ?_);rintro e w7 ⟨A,rfl,n,hb⟩;refine⟨_,rfl,?_⟩;have n_:=qn3 (Kd.R_lower n (Qen qq_b)) (Qdo (g:=k) (o:=.cells #[.bool b,.int .u64 c,.string d,.string j] 37 (0,0)) qq_0 hb) (Qeo qq_b hb);clear a HB;obtain⟨m,a,HB⟩:=n_;(try clear hb);(try clear hb2);(try clear hk);(try clear hi);(try clear n);obtain⟨Ao8,co8,eo8⟩:=Kd.R_slice m.out;subst eo8) |((with_reducible refine Qht (f:=103) rfl ?_);refine Qft (some 15) rfl rfl Tryz.func103 qq_4 rfl #[.slice Ao8 q.length co8] rfl qq_1 ?_;(with_reducible refine(Qbh.calls _ _ q p _ ?side1 ?side2 A4.out).mono ?_);(case side1=>repeat(first|exact(Kd.R_reads' m.out).2.2 |(with_reducible refine Kd.C_alloc ?_ _) |(with_reducible refine Kd.C_drewN ?_ _) |(with_reducible refine Kd.C_drew ?_)));(case side2=>exact(Kd.R_reads' m.out).2.1);rintro e w9 ⟨P,rfl,n,hb⟩;refine⟨_,rfl,?_⟩;have n_:=qn4 (Kd.R_elder' qq_6 (Kd.R_base n) hb) (Kd.R_lower (Kd.R_new' n (Kd.R_lt qq_6)) (Qen qq_b)) (Qdo (g:=k) (o:=.cells #[.bool b,.int .u64 c,.string d,.string j] 37 (0,0)) qq_0 hb) (Qeo qq_b hb);clear m a HB;obtain⟨m,t,a,HB⟩:=n_;(try clear hb);(try clear hb2);(try clear hk);(try clear hi);(try clear n)))
  go_ret2
  exact⟨_,by first|rfl |(simp[Qhy,Qhz]<;>rfl) |(simp[*,Qhy,Qhz]<;>rfl),by(with_reducible repeat(first|apply Kd.R_alloc|apply Kd.R_drewN|apply Kd.R_drew));exact Kd.R_mono t.out (fun _ hk=>trivial),qq_b⟩
 ·rw[if_neg c3]at H;have y:(l == 0)=false:=beq_eq_false_iff_ne.mpr c3;have z:(l != 0)=true:=bne_iff_ne.mpr c3;simp only[Option.some.injEq,Prod.mk.injEq]at H;obtain⟨rfl,rfl⟩:=H
  go_enter Tryz.func59,Tryz.ntmps59
  go_wp2_with (first |((with_reducible refine Qey (N:=1) rfl ?_);refine qq_e 1 #[.bool b,.int .u64 c,.string d,.string j] 37 ?_;intro k hg T hbox hb;have n_:=qn4 (Qeo qq_b hb) (hbox) (qq_s hg:w.heap.size≤k) (qq_s hg:w.heap.size≤k);clear HB;obtain⟨HB,a,r,s⟩:=n_;clear hb hbox hg;obtain⟨B,D,E,G⟩:=qc4 a.out;have M:=Qdc a.out) |((with_reducible refine Qht (f:=105) rfl ?_);refine Qft (some 8) rfl rfl Tryz.func105 qq_4 rfl #[.agg #[.bool b,.int .u64 c,.string d,.string j]] rfl qq_1 ?_;(with_reducible refine(Qbs.calls b c d j q l _ A2.out).mono ?_);rintro e U ⟨A,rfl,n,hb⟩;refine⟨_,rfl,?_⟩;have n_:=qn3 (Kd.R_lower n (Qen qq_b)) (Qdo (g:=k) (o:=.cells #[.bool b,.int .u64 c,.string d,.string j] 37 (0,0)) qq_0 hb) (Qeo qq_b hb);clear a HB;obtain⟨m,a,HB⟩:=n_;(try clear hb);(try clear hb2);(try clear hk);(try clear hi);(try clear n)))
  go_ret2
  exact⟨_,by first|rfl |(simp[Qhy,Qhz]<;>rfl) |(simp[*,Qhy,Qhz]<;>rfl),by first|exact Kd.R_nil _ _ _ _ _|exact Kd.N_nil _ _ _ _ _|exact Kd.V_nil _ _ _ _ _|exact Kd.Q_nil _ _ _ _ _|exact Kd.S_nil _ _ _ _ _,qq_b⟩
end Go.Proofs.YteaocbonofboeaaGreat.C
end
