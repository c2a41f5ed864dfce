/- PROVED HERE: rostrumlaw19.PlayRuns returns true for every input, and its arguments read afterwards as they did; the listed variable holds what the program's text lays (the card ties it). No further condition. -/
import Derived.Deep.Slices
import Derived.Deep.Fields
import Derived.ChangeSame
import Derived.Lib.SmallJoins
import Derived.Test.YtobnhnidffipjaaGreatDoorQ01
import Derived.Test.YtobnhnidffipjaaGreatDoorQ02
import Derived.Test.YtobnhnidffipjaaGreatDoorQ06
import Derived.Test.YtobnhnidffipjaaGreatDoorQ45
import Derived.Test.YtobnhnidffipjaaGreatDoorQ50
namespace Go.Proofs.YtobnhnidffipjaaGreatDoor
open Go Go.RowKit Go.Shelf Go.Extern.Stop Go.Stop Go.Extern
attribute [local go_sem] Oper.semAt_some zw zn
theorem piece_get {l:List UInt8}{k:Nat}{j:Nat}(hj:j<8):(yp l k).getD j 0=l.getD (8*k+j) 0:=by
 unfold yp;rw [List.getD_eq_getElem?_getD,List.getD_eq_getElem?_getD,List.getElem?_take_of_lt hj,List.getElem?_drop]
theorem getD_drop'(l:List UInt8)(n j:Nat):(l.drop n).getD j 0=l.getD (n+j) 0:=by
 rw [List.getD_eq_getElem?_getD,List.getD_eq_getElem?_getD,List.getElem?_drop]
def byteN(l:List UInt8)(i:Nat):Nat:=(l.getD i 0).toNat
theorem byteN_lt(l:List UInt8)(i:Nat):byteN l i<256:=(l.getD i 0).toNat_lt
theorem byteN_at(l:List UInt8)(i:Nat):∀h:i<(bs l).size,((bs l)[i]'h).toNat=byteN l i:=by
 intro h;have h2:i<l.length:=by rw [← zC];exact h
 unfold byteN;rw [List.getD_eq_getElem?_getD,List.getElem?_eq_getElem h2];rfl
theorem opP_at {l:List UInt8}{k:Nat}(_:8*(k+1)<=l.length):opP (yp l k)=⟨(byteN l (8*k)% 16:Nat),(byteN l (8*k+1)% 16:Nat),(byteN l (8*k+2)+256*byteN l (8*k+3):Nat),if byteN l (8*k)% 16=6 then(byteN l (8*k+4)+256*byteN l (8*k+5):Nat)else 0,if byteN l (8*k)% 16=6 then(byteN l (8*k+6)+256*byteN l (8*k+7))*65537 else 0,if byteN l (8*k)% 16=1 then(l.drop (8*k+4)).take 4 else []⟩:=by
 have hw:∀j,j+1<8->xj ((yp l k).drop j)=byteN l (8*k+j)+256*byteN l (8*k+(j+1)):=λj hj=>by
  unfold xj byteN;rw [getD_drop',getD_drop',Nat.add_zero,piece_get (by omega),piece_get (by omega)]
 have hk:Vb (yp l k)=byteN l (8*k)% 16:=by
  unfold Vb byteN;rw [piece_get (by omega)];rfl
 have hd:(yp l k).drop 4=(l.drop (8*k+4)).take 4:=by
  unfold yp;rw [List.drop_take,List.drop_drop]
 unfold opP;rw [hk,hw 2 (by omega),hw 4 (by omega),hw 6 (by omega),hd,piece_get (by omega)];rfl
set_option maxRecDepth 8000 in
set_option maxHeartbeats 2000000 in
theorem refOps_any(l:List UInt8)(hl:l.length<=1200)(w:World):Calls Tryz.prog 22 #[.string (bs l)] w λe w'=>
 ∃lv,e=.returned lv/\Row w' 39 6 lv (XG l).length ((XG l).flatMap opC)/\Below w.heap.size w w'/\(∀g,lv.ownBlock=some g->w.heap.size<=g):=by
 have hsz:=zC l
 go_enter Tryz.func22,Tryz.ntmps22
 go_wp2
 go_loopw [3,4] (λp3 p4 wr=>∃(k:Nat),p4=.int .i64 (8*k:Nat)/\8*k<=l.length/\Below w.heap.size w wr/\Row wr 39 6 p3 k ((zhV l k).flatMap opC)/\(∀g,p3.ownBlock=some g->w.heap.size<=g)) (λ_ p4 _=>l.length - (intOf p4).toNat)
 case atStart=>exact⟨0,rfl,Nat.zero_le _,pbx,zX _ _ _,by simp [Value.ownBlock]⟩
 case round=>
  obtain⟨k,rfl,hk,hbw,hR,hn⟩:=hrel;obtain⟨na,nc,rfl⟩:=hR.src.shape;obtain⟨m,hm⟩:∃m,8*k=m:=⟨_,rfl⟩;have hn8:8*(k+1)=m+8:=by omega
  have hop:= @opP_at l k;rw [hn8] at hop;rw [hm] at hk hop⊢;have hw8:IntKind.i64.wrap ((m:Int)+8)=(m:Int)+8:=by rw [IntKind.wrap_i64];omega
  have t2:decide ((k:Int)<10000)=true:=decide_eq_true (by omega);have hkb:k+1<=1073741824:=by omega
  replace hm:=G hm;replace hn:=G hn
  by_cases hlt:m+8<=l.length
  ·have t1:decide ((m:Int)+8<=(l.length:Int))=true:=decide_eq_true (by omega)
   replace hop:=hop hlt;have y0:(0:Int)<=(m:Int):=by omega
   have i0:¬((l.length:Int)<=(m:Int)):=by omega
   have i1:¬((l.length:Int)<=(m:Int)+1):=by omega
   have i2:¬((l.length:Int)<=(m:Int)+2):=by omega
   have i3:¬((l.length:Int)<=(m:Int)+3):=by omega
   have p0:m<l.length:=by omega
   have p1:m+1<l.length:=by omega
   have p2:m+2<l.length:=by omega
   have p3:m+3<l.length:=by omega
   have n1:((m:Int)+1).toNat=m+1:=by omega
   have n2:((m:Int)+2).toNat=m+2:=by omega
   have n3:((m:Int)+3).toNat=m+3:=by omega
   have z1:(0:Int)<=(m:Int)+1:=by omega
   have z2:(0:Int)<=(m:Int)+2:=by omega
   have z3:(0:Int)<=(m:Int)+3:=by omega
   have v1:IntKind.i64.wrap ((m:Int)+1)=(m:Int)+1:=by rw [IntKind.wrap_i64];omega
   have v2:IntKind.i64.wrap ((m:Int)+2)=(m:Int)+2:=by rw [IntKind.wrap_i64];omega
   have v3:IntKind.i64.wrap ((m:Int)+3)=(m:Int)+3:=by rw [IntKind.wrap_i64];omega
   have b0:=byteN_at l m;have b1:=byteN_at l (m+1);have b2:=byteN_at l (m+2);have b3:=byteN_at l (m+3);have lt0:=byteN_lt l m;have lt1:=byteN_lt l (m+1);have lt2:=byteN_lt l (m+2);have lt3:=byteN_lt l (m+3)
   generalize byteN l m=x0 at*
   generalize byteN l (m+1)=x1 at*
   generalize byteN l (m+2)=x2 at*
   generalize byteN l (m+3)=x3 at*
   go_wp2_with fail
   apply qQ (Wp:=λw'=>Below wr.heap.size wr w'/\Blk w' wr.heap.size #[.int .i64 ((x0:Int)% 16),.int .i64 ((x1:Int)% 16),.int .i64 ((x2:Int)+256*x3),.int .i64 0,.int .u32 0,.string ⟨#[]⟩] 39)
   case h=>
    refine yl [(0,true),(1,true),(2,true),(3,true),(4,true),(5,true),(6,true),(7,true),(8,true),(9,true),(10,true),(11,true),(12,true),(13,true),(14,true),(15,true),(16,true),(17,true),(18,true),(19,true),(20,true),(21,true),(22,true)] none Qv #[true,true,true,true,true,true,true,true,true,true,true,true,true,true,true,true,true,true,true,true,true,true,true,false,false,false] (m:=3) (by kernel_rfl) (by kernel_rfl) trivial ?_
    (repeat (refine zA (v:=?_) rfl rfl (λw' h=>?_) (λK k=>?_);rotate_left;obtain⟨f1,f2,f3,f4,f5,_⟩:=h;(try have e1:=f1.cell);(try have e2:=f2.cell);(try have e3:=f3.cell);(try have e4:=f4.cell);(try have e5:=f5.cell);go_simp;(try with_reducible rfl);go_simp;refine k _ ?_;clear k K))
    refine zY (λ_=>?_);refine Zp 23 [24] (by kernel_rfl) ?_ (qw ?_ Zq)
    ·refine xh rfl (λJ hJ=>?_)
     go_wp2;refine hJ.out _ _ trivial ?_;clear hJ J;refine yC [(24,false),(25,false)] (by kernel_rfl) (λ_=>trivial) ?_;refine zQ rfl (by simp) (λJ hJ=>?_);go_wp2;refine hJ.out _ _ trivial ?_;clear hJ J;refine zQ rfl (by simp) (λJ hJ=>?_);go_wp2;refine hJ.out _ _ trivial ?_;clear hJ J;refine zY ?_;exact xI ⟨pbx,bkx⟩
    ·refine xh rfl (λJ hJ=>?_)
     go_wp2;refine hJ.out _ _ trivial ?_;clear hJ J;refine yC [(23,false),(25,false)] (by kernel_rfl) (λ_=>trivial) ?_;refine zQ rfl (by simp) (λJ hJ=>?_);go_wp2;refine hJ.out _ _ trivial ?_;clear hJ J;refine zQ rfl (by simp) (λJ hJ=>?_);go_wp2;refine hJ.out _ _ trivial ?_;clear hJ J;refine zY ?_;exact xI ⟨pbx,bkx⟩
   case h2=>
    rintro w3⟨hb3,kB3⟩;clear i0 i1 i2 i3 p0 p1 p2 p3 n1 n2 n3 z1 z2 z3 v1 v2 v3 b0 b1 b2 b3;have hR3:=hR.below hb3;have hbw3:=zf hbw hb3;have hx0:((x0 % 16:Nat):Int)=(x0:Int)% 16:=by omega
    have hx1:((x1 % 16:Nat):Int)=(x1:Int)% 16:=by omega
    replace hR3:=G hR3;replace hx0:=G hx0;replace hx1:=G hx1;replace hop:=G hop;replace hn8:=G hn8;replace hR:=G hR
    by_cases h6:x0 % 16=6
    ·have t6:((x0:Int)% 16==6)=true:=by simp;omega
     have t7:((x0:Int)% 16==1)=false:=by simp;omega
     have i4:¬((l.length:Int)<=(m:Int)+4):=by omega
     have i5:¬((l.length:Int)<=(m:Int)+5):=by omega
     have i6:¬((l.length:Int)<=(m:Int)+6):=by omega
     have i7:¬((l.length:Int)<=(m:Int)+7):=by omega
     have p4:m+4<l.length:=by omega
     have p5:m+5<l.length:=by omega
     have p6:m+6<l.length:=by omega
     have p7:m+7<l.length:=by omega
     have n4:((m:Int)+4).toNat=m+4:=by omega
     have n5:((m:Int)+5).toNat=m+5:=by omega
     have n6:((m:Int)+6).toNat=m+6:=by omega
     have n7:((m:Int)+7).toNat=m+7:=by omega
     have z4:(0:Int)<=(m:Int)+4:=by omega
     have z5:(0:Int)<=(m:Int)+5:=by omega
     have z6:(0:Int)<=(m:Int)+6:=by omega
     have z7:(0:Int)<=(m:Int)+7:=by omega
     have v4:IntKind.i64.wrap ((m:Int)+4)=(m:Int)+4:=by rw [IntKind.wrap_i64];omega
     have v5:IntKind.i64.wrap ((m:Int)+5)=(m:Int)+5:=by rw [IntKind.wrap_i64];omega
     have v6:IntKind.i64.wrap ((m:Int)+6)=(m:Int)+6:=by rw [IntKind.wrap_i64];omega
     have v7:IntKind.i64.wrap ((m:Int)+7)=(m:Int)+7:=by rw [IntKind.wrap_i64];omega
     have b4:=byteN_at l (m+4);have b5:=byteN_at l (m+5);have b6:=byteN_at l (m+6);have b7:=byteN_at l (m+7);have lt4:=byteN_lt l (m+4);have lt5:=byteN_lt l (m+5);have lt6:=byteN_lt l (m+6);have lt7:=byteN_lt l (m+7);have hop2:=hop.out
     generalize byteN l (m+4)=x4 at*
     generalize byteN l (m+5)=x5 at*
     generalize byteN l (m+6)=x6 at*
     generalize byteN l (m+7)=x7 at*
     have u1:IntKind.i64.wrap (256*(x5:Int))=256*(x5:Int):=by rw [IntKind.wrap_i64];omega
     have u2:IntKind.i64.wrap ((x4:Int)+256*x5)=(x4:Int)+256*x5:=by rw [IntKind.wrap_i64];omega
     have u3:IntKind.i64.wrap (x4:Int)=(x4:Int):=by rw [IntKind.wrap_i64];omega
     have u4:IntKind.i64.wrap (x5:Int)=(x5:Int):=by rw [IntKind.wrap_i64];omega
     have u5:IntKind.u32.wrap (x6:Int)=(x6:Int):=by rw [IntKind.wrap_u32];omega
     have u6:IntKind.u32.wrap (x7:Int)=(x7:Int):=by rw [IntKind.wrap_u32];omega
     have u7:IntKind.u32.wrap (256*(x7:Int))=256*(x7:Int):=by rw [IntKind.wrap_u32];omega
     have u8:IntKind.u32.wrap ((x6:Int)+256*x7)=(x6:Int)+256*x7:=by rw [IntKind.wrap_u32];omega
     have u9:IntKind.u32.wrap (65537*((x6:Int)+256*x7))=65537*((x6:Int)+256*x7):=by rw [IntKind.wrap_u32];omega
     have hcs:opC (opP (yp l k))=[.int .i64 ((x0:Int)% 16),.int .i64 ((x1:Int)% 16),.int .i64 ((x2:Int)+256*x3),.int .i64 ((x4:Int)+256*x5),.int .u32 (65537*((x6:Int)+256*x7)),.string ⟨#[]⟩]:=by
      rw [hop2,if_pos h6,if_pos h6,if_neg (by omega)];unfold opC;simp only [hx0.out,hx1.out,Int.natCast_add,Int.natCast_mul,Int.mul_comm];rfl
     clear hop2 hop;replace hcs:=G hcs;have c3:=kB3.cell;go_wp2_with fail
     refine zd [(0,true),(1,true),(2,true),(3,true),(4,true),(5,true),(6,true),(7,true),(8,true),(9,true),(10,true),(11,true),(12,true),(13,false)] none (λw'=>True) (by kernel_rfl) (by kernel_rfl) trivial ?_;clear c3
     (repeat (refine za (v:=?_) rfl rfl (λw' h=>?_) (λK k=>?_);rotate_left;obtain⟨f1,f2,f3,f4,f5,_⟩:=h;(try have e1:=f1.cell);(try have e2:=f2.cell);(try have e3:=f3.cell);(try have e4:=f4.cell);(try have e5:=f5.cell);go_simp;(try with_reducible rfl);go_simp;refine k _ ?_;clear k K))
     refine zc rfl (λK hK=>?_);have f4:=kB3.drew.frozen;have c4:=kB3.drew.cell;have l4:=kB3.drew.lt;go_wp2;refine hK.out _ _ (λ_=>trivial) ?_;clear hK K f4 c4 l4;refine ze ?_;obtain⟨w4,hw4⟩:∃x,x=(w3.setCell ⟨wr.heap.size,3,none⟩ (.int .i64 ((x4:Int)+256*x5))).drew:=⟨_,rfl⟩;have kB4:Blk w4 wr.heap.size #[.int .i64 ((x0:Int)% 16),.int .i64 ((x1:Int)% 16),.int .i64 ((x2:Int)+256*x3),.int .i64 ((x4:Int)+256*x5),.int .u32 0,.string ⟨#[]⟩] 39:=by rw [hw4];exact(kB3.set _).drew
     have hb4:Below wr.heap.size wr w4:=by rw [hw4];exact zo (zm hb3 (Nat.le_refl _) _)
     go_wp2_with fail
     rw [← hw4];have c4:=kB4.cell;refine zd [(0,true),(1,true),(2,true),(3,true),(4,true),(5,true),(6,true),(7,true),(8,true),(9,true),(10,true),(11,true),(12,true),(13,true),(14,false)] none (λw'=>True) (by kernel_rfl) (by kernel_rfl) trivial ?_;clear c4 hw4
     (repeat (refine za (v:=?_) rfl rfl (λw' h=>?_) (λK k=>?_);rotate_left;obtain⟨f1,f2,f3,f4,f5,_⟩:=h;(try have e1:=f1.cell);(try have e2:=f2.cell);(try have e3:=f3.cell);(try have e4:=f4.cell);(try have e5:=f5.cell);go_simp;(try with_reducible rfl);go_simp;refine k _ ?_;clear k K))
     refine zc rfl (λK hK=>?_);have f4:=kB4.drew.frozen;have c4:=kB4.drew.cell;have l4:=kB4.drew.lt;go_wp2;refine hK.out _ _ (λ_=>trivial) ?_;clear hK K f4 c4 l4;refine ze ?_;clear i4 i5 i6 i7 p4 p5 p6 p7 n4 n5 n6 n7 z4 z5 z6 z7 v4 v5 v6 v7 b4 b5 b6 b7 u1 u2 u3 u4 u5 u6 u7 u8 u9 hb3 kB3;obtain⟨w5,hw5⟩:∃x,x=(w4.setCell ⟨wr.heap.size,4,none⟩ (.int .u32 (65537*((x6:Int)+256*x7)))).drew:=⟨_,rfl⟩;have kB5:Blk w5 wr.heap.size #[.int .i64 ((x0:Int)% 16),.int .i64 ((x1:Int)% 16),.int .i64 ((x2:Int)+256*x3),.int .i64 ((x4:Int)+256*x5),.int .u32 (65537*((x6:Int)+256*x7)),.string ⟨#[]⟩] 39:=by rw [hw5];exact(kB4.set _).drew
     have hb5:Below wr.heap.size wr w5:=by rw [hw5];exact zo (zm hb4 (Nat.le_refl _) _)
     rw [← hw5];clear hw5 hb4 kB4;replace hcs:=G hcs;obtain⟨Wc,hWc⟩:∃x,x=w5:=⟨_,rfl⟩;have hbc:Below wr.heap.size wr Wc:=by rw [hWc];exact hb5
     have cBc:=(show Blk (w5) wr.heap.size #[.int .i64 ((x0:Int)% 16),.int .i64 ((x1:Int)% 16),.int .i64 ((x2:Int)+256*x3),(.int .i64 ((x4:Int)+256*x5)),(.int .u32 (65537*((x6:Int)+256*x7))),(.string ⟨#[]⟩)] 39 by exact kB5).cell;have kBc:Blk Wc wr.heap.size #[.int .i64 ((x0:Int)% 16),.int .i64 ((x1:Int)% 16),.int .i64 ((x2:Int)+256*x3),(.int .i64 ((x4:Int)+256*x5)),(.int .u32 (65537*((x6:Int)+256*x7))),(.string ⟨#[]⟩)] 39:=by rw [hWc];exact kB5
     replace hWc:=G hWc;have hbd:Below wr.heap.size wr (Wc.alloc (.cells #[.int .i64 ((x0:Int)% 16),.int .i64 ((x1:Int)% 16),.int .i64 ((x2:Int)+256*x3),(.int .i64 ((x4:Int)+256*x5)),(.int .u32 (65537*((x6:Int)+256*x7))),(.string ⟨#[]⟩)] 39)):=zg hbc _
     have hsrc:Src (Wc.alloc (.cells #[.int .i64 ((x0:Int)% 16),.int .i64 ((x1:Int)% 16),.int .i64 ((x2:Int)+256*x3),(.int .i64 ((x4:Int)+256*x5)),(.int .u32 (65537*((x6:Int)+256*x7))),(.string ⟨#[]⟩)] 39)) (.slice (some ⟨w5.heap.size,0,none⟩) 1 1) 6 1 (opC (opP (yp l k))):=by
      rw [hcs.out];exact jB (n:=1) (size:=6) (cap:=1) (Blk.new (by simp [hWc.out])) rfl (Nat.le_refl 1)
     obtain⟨nv',W7,hrun,hrow,hgr,hown⟩:=zI opT (hR.out.below hbd) hsrc (λu hu=>zaw [opP (yp l k)] u (by simpa using hu)) (by omega) 22;have hb7:Below w.heap.size w W7:=(zf hbw hbd).grown hgr (by have:=hbw.size;simp;have:=hbc.size;omega) (λj hj=>hn.out j hj);obtain⟨va,vc,rfl⟩:=hrow.src.shape
     have hg7:∀g,(Value.slice va (k+1) vc).ownBlock=some g->w.heap.size<=g:=λg hg=>by
      rw [hg] at hown
      rcases hown with h|h
      ·exact hn.out g h.symm
      ·have:=hbw.size;have:=hbc.size;simp at h;omega
     replace hrow:=G hrow;replace hrun:=G hrun;replace hg7:=G hg7;replace hown:=G hown;replace hgr:=G hgr;obtain rfl:=hWc.out
     go_wp2_with (at_builtin
                  skip
                  refine zu rfl _ _ _ rfl rfl rfl hrun.out ?_)
     go_roundw
     case rel=>exact⟨k+1,by rw [hn8.out];rfl,by rw [hn8.out];exact hlt,hb7,by rw [Ya,List.flatMap_append,List.flatMap_cons,List.flatMap_nil,List.append_nil];exact hrow.out,hg7.out⟩
     case measure=>simp [intOf];omega
    ·by_cases h1:x0 % 16=1
     ·have t6:((x0:Int)% 16==6)=false:=by simp;omega
      have t7:((x0:Int)% 16==1)=true:=by simp;omega
      have z4:(0:Int)<=(m:Int)+4:=by omega
      have z5:(m:Int)+4<=(m:Int)+8:=by omega
      have z6:(m:Int)+8<=(l.length:Int):=by omega
      have n4:((m:Int)+4).toNat=m+4:=by omega
      have n8:((m:Int)+8).toNat=m+8:=by omega
      have v4:IntKind.i64.wrap ((m:Int)+4)=(m:Int)+4:=by rw [IntKind.wrap_i64];omega
      have hex:(bs l).extract (m+4) (m+8)=bs ((l.drop (m+4)).take 4):=(jR l (m+4) (m+8)).trans (by rw [show m+8 - (m+4)=4 by omega])
      have hcs:opC (opP (yp l k))=[.int .i64 ((x0:Int)% 16),.int .i64 ((x1:Int)% 16),.int .i64 ((x2:Int)+256*x3),.int .i64 0,.int .u32 0,.string (bs ((l.drop (m+4)).take 4))]:=by
       rw [hop.out,if_neg h6,if_neg h6,if_pos h1];unfold opC;simp only [hx0.out,hx1.out,Int.natCast_add,Int.natCast_mul];rfl
      have c3:=kB3.cell;have f3:=kB3.frozen;have l3:=kB3.lt;replace hcs:=G hcs;obtain⟨Wc,hWc⟩:∃x,x=w3.setCell ⟨wr.heap.size,5,none⟩ (.string (bs ((l.drop (m+4)).take 4))):=⟨_,rfl⟩;have hbc:Below wr.heap.size wr Wc:=by rw [hWc];exact zm hb3 (Nat.le_refl _) _
      have cBc:=(show Blk (w3.setCell ⟨wr.heap.size,5,none⟩ (.string (bs ((l.drop (m+4)).take 4)))) wr.heap.size #[.int .i64 ((x0:Int)% 16),.int .i64 ((x1:Int)% 16),.int .i64 ((x2:Int)+256*x3),(.int .i64 0),(.int .u32 0),(.string (bs ((l.drop (m+4)).take 4)))] 39 by exact kB3.set _).cell;have kBc:Blk Wc wr.heap.size #[.int .i64 ((x0:Int)% 16),.int .i64 ((x1:Int)% 16),.int .i64 ((x2:Int)+256*x3),(.int .i64 0),(.int .u32 0),(.string (bs ((l.drop (m+4)).take 4)))] 39:=by rw [hWc];exact kB3.set _
      replace hWc:=G hWc;have hbd:Below wr.heap.size wr (Wc.alloc (.cells #[.int .i64 ((x0:Int)% 16),.int .i64 ((x1:Int)% 16),.int .i64 ((x2:Int)+256*x3),(.int .i64 0),(.int .u32 0),(.string (bs ((l.drop (m+4)).take 4)))] 39)):=zg hbc _
      have hsrc:Src (Wc.alloc (.cells #[.int .i64 ((x0:Int)% 16),.int .i64 ((x1:Int)% 16),.int .i64 ((x2:Int)+256*x3),(.int .i64 0),(.int .u32 0),(.string (bs ((l.drop (m+4)).take 4)))] 39)) (.slice (some ⟨w3.heap.size,0,none⟩) 1 1) 6 1 (opC (opP (yp l k))):=by
       rw [hcs.out];exact jB (n:=1) (size:=6) (cap:=1) (Blk.new (by simp [hWc.out])) rfl (Nat.le_refl 1)
      obtain⟨nv',W7,hrun,hrow,hgr,hown⟩:=zI opT (hR.out.below hbd) hsrc (λu hu=>zaw [opP (yp l k)] u (by simpa using hu)) (by omega) 22;have hb7:Below w.heap.size w W7:=(zf hbw hbd).grown hgr (by have:=hbw.size;simp;have:=hbc.size;omega) (λj hj=>hn.out j hj);obtain⟨va,vc,rfl⟩:=hrow.src.shape
      have hg7:∀g,(Value.slice va (k+1) vc).ownBlock=some g->w.heap.size<=g:=λg hg=>by
       rw [hg] at hown
       rcases hown with h|h
       ·exact hn.out g h.symm
       ·have:=hbw.size;have:=hbc.size;simp at h;omega
      replace hrow:=G hrow;replace hrun:=G hrun;replace hg7:=G hg7;replace hown:=G hown;replace hgr:=G hgr
      go_wp2_with (at_builtin
                   rw [← hWc.out]
                   refine zu rfl _ _ _ rfl rfl rfl hrun.out ?_)
      go_roundw
      case rel=>exact⟨k+1,by rw [hn8.out];rfl,by rw [hn8.out];exact hlt,hb7,by rw [Ya,List.flatMap_append,List.flatMap_cons,List.flatMap_nil,List.append_nil];exact hrow.out,hg7.out⟩
      case measure=>simp [intOf];omega
     ·have t6:((x0:Int)% 16==6)=false:=by simp;omega
      have t7:((x0:Int)% 16==1)=false:=by simp;omega
      have hcs:opC (opP (yp l k))=[.int .i64 ((x0:Int)% 16),.int .i64 ((x1:Int)% 16),.int .i64 ((x2:Int)+256*x3),.int .i64 0,.int .u32 0,.string ⟨#[]⟩]:=by
       rw [hop.out,if_neg h6,if_neg h6,if_neg h1];unfold opC;simp only [hx0.out,hx1.out,Int.natCast_add,Int.natCast_mul];rfl
      have c3:=kB3.cell;have l3:=kB3.lt;replace hcs:=G hcs;obtain⟨Wc,hWc⟩:∃x,x=w3:=⟨_,rfl⟩;have hbc:Below wr.heap.size wr Wc:=by rw [hWc];exact hb3
      have cBc:=(show Blk (w3) wr.heap.size #[.int .i64 ((x0:Int)% 16),.int .i64 ((x1:Int)% 16),.int .i64 ((x2:Int)+256*x3),(.int .i64 0),(.int .u32 0),(.string ⟨#[]⟩)] 39 by exact kB3).cell;have kBc:Blk Wc wr.heap.size #[.int .i64 ((x0:Int)% 16),.int .i64 ((x1:Int)% 16),.int .i64 ((x2:Int)+256*x3),(.int .i64 0),(.int .u32 0),(.string ⟨#[]⟩)] 39:=by rw [hWc];exact kB3
      replace hWc:=G hWc;have hbd:Below wr.heap.size wr (Wc.alloc (.cells #[.int .i64 ((x0:Int)% 16),.int .i64 ((x1:Int)% 16),.int .i64 ((x2:Int)+256*x3),(.int .i64 0),(.int .u32 0),(.string ⟨#[]⟩)] 39)):=zg hbc _
      have hsrc:Src (Wc.alloc (.cells #[.int .i64 ((x0:Int)% 16),.int .i64 ((x1:Int)% 16),.int .i64 ((x2:Int)+256*x3),(.int .i64 0),(.int .u32 0),(.string ⟨#[]⟩)] 39)) (.slice (some ⟨w3.heap.size,0,none⟩) 1 1) 6 1 (opC (opP (yp l k))):=by
       rw [hcs.out];exact jB (n:=1) (size:=6) (cap:=1) (Blk.new (by simp [hWc.out])) rfl (Nat.le_refl 1)
      obtain⟨nv',W7,hrun,hrow,hgr,hown⟩:=zI opT (hR.out.below hbd) hsrc (λu hu=>zaw [opP (yp l k)] u (by simpa using hu)) (by omega) 22;have hb7:Below w.heap.size w W7:=(zf hbw hbd).grown hgr (by have:=hbw.size;simp;have:=hbc.size;omega) (λj hj=>hn.out j hj);obtain⟨va,vc,rfl⟩:=hrow.src.shape
      have hg7:∀g,(Value.slice va (k+1) vc).ownBlock=some g->w.heap.size<=g:=λg hg=>by
       rw [hg] at hown
       rcases hown with h|h
       ·exact hn.out g h.symm
       ·have:=hbw.size;have:=hbc.size;simp at h;omega
      replace hrow:=G hrow;replace hrun:=G hrun;replace hg7:=G hg7;replace hown:=G hown;replace hgr:=G hgr;obtain rfl:=hWc.out
      go_wp2_with (at_builtin
                   skip
                   refine zu rfl _ _ _ rfl rfl rfl hrun.out ?_)
      go_roundw
      case rel=>exact⟨k+1,by rw [hn8.out];rfl,by rw [hn8.out];exact hlt,hb7,by rw [Ya,List.flatMap_append,List.flatMap_cons,List.flatMap_nil,List.append_nil];exact hrow.out,hg7.out⟩
      case measure=>simp [intOf];omega
  ·have t1:decide ((m:Int)+8<=(l.length:Int))=false:=decide_eq_false (by omega)
   have hkl:k=l.length / 8:=by have:=hm.out;omega
   go_wp2;go_ret
   refine⟨_,rfl,?_,hbw,hn.out⟩;unfold XG;rw [ZJ,← hkl];exact hR
set_option maxRecDepth 8000 in
theorem cut19_any(l:List UInt8)(w:World):Calls Tryz.prog 20 #[.string (bs l)] w λe w'=>e=.returned (.string (bs (l.take 1200)))/\Below w.heap.size w w':=by
 have hex:=yQ l;have hds:=zC l;replace hex:=G hex;replace hds:=G hds
 go_enter Tryz.func20,Tryz.ntmps20
 go_wp2
 have hst:(bs l).extract 0 (min ((bs l).size:Int) 1200).toNat=bs (l.take 1200):=by
  rw [hex.out,hds.out]
  congr 1
  rcases Nat.lt_or_ge l.length 1200 with h|h
  ·rw [show(min (l.length:Int) 1200).toNat=l.length by omega,List.take_of_length_le (Nat.le_refl _),List.take_of_length_le (by omega)]
  ·rw [show(min (l.length:Int) 1200).toNat=1200 by omega]
 rw [hst];exact bodyPost_ret (v:=.string (bs (l.take 1200))) (by simp [results,Tryz.results20,go_sem]) rfl ⟨rfl,pbx⟩
theorem hap_same19(h:zb8)(w:World):(binOp .neq 36 (.agg (jr h).toArray) (.agg (jr h).toArray)).run Tryz.prog w=.ok (.bool false) w:=by
 obtain⟨k,n,⟨i,c⟩,d⟩:=h;unfold jr;rw [run_neq_struct];simp [go_sem]
theorem flatHap19:∀(l:List zb8)(k:Nat)(x:zb8),l[k]?=some x->∀j,j<5->(l.flatMap jr)[k*5+j]?=(jr x)[j]?
 | [],k,x,h,_,_=>by simp at h
 |y::l,0,x,h,j,hj=>by
  simp only [List.getElem?_cons_zero,Option.some.injEq] at h;subst h;rw [List.flatMap_cons,List.getElem?_append_left (by simp only [jr,List.length_cons,List.length_nil];omega),Nat.zero_mul,Nat.zero_add]
 |y::l,k+1,x,h,j,hj=>by
  simp only [List.getElem?_cons_succ] at h;rw [List.flatMap_cons,List.getElem?_append_right (by simp only [jr,List.length_cons,List.length_nil];omega)];have:=flatHap19 l k x h j hj;rw [← this]
  congr 1
  simp only [jr,List.length_cons,List.length_nil];omega
theorem src_hap19 {W:World}{l:List zb8}{b off cap:Nat}(h:Src W (.slice (some ⟨b,off,none⟩) l.length cap) 5 l.length (l.flatMap jr)){k:Nat}{x:zb8}(hx:l[k]?=some x){j:Nat}(hj:j<5):W.cell? ⟨b,off+k*5+j,none⟩=(jr x)[j]?:=by
 rcases h.2 with⟨h, -⟩|⟨b',off',cap',h, -,hr⟩
 ·cases h
 ·cases h
  have h1:=flatHap19 l k x hx j hj
  cases hu:(jr x)[j]? with
  |none=>simp [jr] at hu;omega
  |some u=>rw [Nat.add_assoc];exact hr _ u (h1.trans hu)
set_option maxRecDepth 8000 in
set_option maxHeartbeats 4000000 in
theorem playRuns_true(a:Addr)(n v:Int)(s:List UInt8)(w:World)(he:jA w a):Calls Tryz.prog 6 #[.int .i64 n,.int .i64 v,.string (bs s)] w λe w'=>e=.returned (.bool true)/\Below w.heap.size w w':=by
 have hsh:=XC a w he;have hel:=he.lt;replace hsh:=G hsh;have hl:(s.take 1200).length<=1200:=by rw [List.length_take];omega
 by_cases h1:n<1
 ·have t1:decide (n<1)=true:=by simpa using h1
  go_enter Tryz.func6,Tryz.ntmps6
  go_wp2_with fail
  refine hsh.out.mono ?_;rintro e w1⟨rfl,hb1⟩;go_wp2_with fail
  refine(cut19_any s _).mono ?_;rintro e w2⟨rfl,hb2⟩;have hb12:=zf hb1 hb2;go_wp2;go_ret
  exact⟨rfl,hb12⟩
 by_cases h2:5<n
 ·have t1:decide (n<1)=false:=by simpa using h1
  have t2:decide (5<n)=true:=by simpa using h2
  go_enter Tryz.func6,Tryz.ntmps6
  go_wp2_with fail
  refine hsh.out.mono ?_;rintro e w1⟨rfl,hb1⟩;go_wp2_with fail
  refine(cut19_any s _).mono ?_;rintro e w2⟨rfl,hb2⟩;have hb12:=zf hb1 hb2;go_wp2;go_ret
  exact⟨rfl,hb12⟩
 have t1:decide (n<1)=false:=by simpa using h1
 have t2:decide (5<n)=false:=by simpa using h2
 cases hv:known v with
 |false=>
  obtain⟨er,her,hno⟩:=zkF (n:=n) (v:=v) (by rw [hv];simp);have q1:=λW=>zdv her hno (s.take 1200) W
  have q2:=λW=>hno W
  have u1:(er !=0)=true:=by simpa [bne] using her
  have u2:(er==er)=true:=by simp
  replace q1:=G q1;replace q2:=G q2;replace hno:=G hno
  go_enter Tryz.func6,Tryz.ntmps6
  go_wp2_with fail
  refine hsh.out.mono ?_;rintro e w1⟨rfl,hb1⟩;go_wp2_with fail
  refine(cut19_any s _).mono ?_;rintro e w2⟨rfl,hb2⟩;have hb12:=zf hb1 hb2;go_wp2_with fail
  refine(q1.out _).mono ?_;rintro e w3⟨rfl,hb3⟩;go_wp2_with fail
  refine(q2.out _).mono ?_;rintro e w4⟨rfl,hb4⟩;go_wp2;go_ret
  exact⟨rfl,zf hb12 (zf hb3 hb4)⟩
 |true=>
  obtain⟨m,rfl⟩:∃m:Nat,n=m:=⟨n.toNat,by omega⟩;have hm:1<=m/\m<=16:=by omega
  obtain⟨x,hx⟩:∃x,s.take 1200=x:=⟨_,rfl⟩;rw [hx] at hl;have q1:=λW hW=>zer a m hm v hv x hl W hW
  have q2:=λW hW=>zel a m hm v 262144 hv (by omega) (by omega) [1] (λ_=>[]) W hW
  have q3:=λW=>refOps_any x hl W
  have hg0:zr v 0 0 (JZ m v 262144 (zp v)):=Xl hm (by omega) (by omega);have hgd:=Zu (v:=v) hm hl;have hlen:(XG x).length<=150:=by unfold XG;rw [ZJ];omega
  have hoks:=zdu x;have hS:yL m v x=ZP (zp v) (JZ m v 262144 (zp v)) (XG x):=rfl;have hC:Y0 m v x=zb4 (zp v) (JZ m v 262144 (zp v)) (XG x):=rfl;unfold Vj at q1;unfold zay at q2;obtain⟨S0,hS0⟩:∃S0,JZ m v 262144 (zp v)=S0:=⟨_,rfl⟩;obtain⟨SE,hSE⟩:∃S0,yL m v x=S0:=⟨_,rfl⟩;obtain⟨cE,hcE⟩:∃S0,Y0 m v x=S0:=⟨_,rfl⟩;obtain⟨l,hlx⟩:∃l,XG x=l:=⟨_,rfl⟩;rw [hS0] at q2 hg0 hS hC;rw [hSE] at q1 hgd hS;rw [hcE] at q1 hC;rw [hlx] at q3 hlen hoks hS hC;have htr:=hgd.traceLe
  have hels:∀k,k<=l.length->zr v k (16*k) (ZP (zp v) S0 (l.take k)):=λk hk=>by
   have:=ZL (l.take k) 0 0 S0 hg0 (λo ho=>hoks o (List.mem_of_mem_take ho)) (by rw [List.length_take];omega);rw [List.length_take,Nat.min_eq_left hk] at this
   simpa using this
  replace q1:=G q1;replace q2:=G q2;replace q3:=G q3;replace hg0:=G hg0;replace hgd:=G hgd;replace hoks:=G hoks;replace hels:=G hels;replace hS:=G hS;replace hC:=G hC;replace hS0:=G hS0;replace hSE:=G hSE;replace hcE:=G hcE;replace hlx:=G hlx;clear h1 h2
  go_enter Tryz.func6,Tryz.ntmps6
  go_wp2_with fail
  refine hsh.out.mono ?_;rintro e w1⟨rfl,hb1⟩;go_wp2_with fail
  refine(cut19_any s _).mono ?_;rintro e w2⟨rfl,hb2⟩;have hb12:=zf hb1 hb2;rw [hx];replace hx:=G hx;have he2:=he.below hb12 hel;have hel2:=he2.lt;go_wp2_with fail
  refine(q1.out _ he2).mono ?_;rintro e w3⟨tv,rfl,hrt,hb3, -⟩;obtain⟨ta,tc,rfl⟩:=hrt.wideV.shape;have he3:=he2.below hb3 hel2;replace hrt:=G hrt;go_wp2_with fail
  refine(q2.out _ he3).mono ?_;rintro e w4⟨B,K,ow4,rfl,hs4,hb4,hW4, -⟩;go_wp2_with fail
  refine(q3.out _).mono ?_;rintro e w5⟨lv,rfl,hrl,hb5,hlo⟩;have h5:zeq [1] w3 B K S0 (ow4.cut w4) w5:=zeq.below ⟨hs4,hW4⟩ hb5;have hlo5:∀g,lv.ownBlock=some g->(ow4.cut w4) g=[]:=λg hg=>Own.cut_new (hlo g hg)
  generalize ow4.cut w4=ow5 at*
  obtain⟨la,lc,rfl⟩:=hrl.wideV.shape;replace hrl:=G hrl;replace hlo5:=G hlo5;replace hlo:=G hlo;clear hW4 hs4;have hel5:2<w5.heap.size:=by have:=he3.lt;have:=h5.st.size;omega
  obtain⟨he5,hge5⟩:=h5.err (by simp) he3;go_wp2
  go_loopw [14,15] (λp14 p15 wr=>∃(k:Nat)(ow':Own),p14=.int .i64 (zb4 (zp v) S0 (l.take k):Nat)/\p15=.int .i64 (k:Nat)/\k<=l.length/\zq [1] ow5 w5 ow' wr/\zy B K (ZP (zp v) S0 (l.take k)) [1] ow' wr) (λ_ p15 _=>l.length - (intOf p15).toNat)
  case atStart=>exact⟨0,ow5,rfl,rfl,Nat.zero_le _,zq.refl _ _ _,h5.is⟩
  case round=>
   obtain⟨k,ow2,rfl,rfl,hk1,hst,hW2⟩:=hrel
   by_cases hlt:k<l.length
   ·have t3:decide ((k:Int)<(l.length:Int))=true:=by simpa using hlt
    have hwk:IntKind.i64.wrap ((k:Int)+1)=(k:Int)+1:=by rw [IntKind.wrap_i64];omega
    have y0:(0:Int)<=(k:Int):=by omega
    have y1:(k:Int)<(l.length:Int):=by omega
    obtain⟨o,hxo⟩:∃x,l[k]?=some x:=⟨_,List.getElem?_eq_getElem hlt⟩;have hrowr:=hrl.out.kept (w':=wr) (λg hg=>hst.block (hrl.out.lt hg) (by rw [hlo5.out g hg];exact zi (by simp)))
    rcases hrowr.src.2 with⟨h,h0⟩|⟨b,off,cap,h, -,hr⟩
    ·omega
    cases h
    have hob:=hoks.out o (List.mem_of_getElem? hxo)
    have hcell:∀j,j<6->wr.cell? ⟨b,off+(k*6+j),none⟩=(opC o)[j]?:=λj hj=>by
     have h1:=XB l k o hxo j hj
     cases hu:(opC o)[j]? with
     |none=>simp [opC] at hu;omega
     |some u=>exact hr _ u (h1.trans hu)
    have c0:wr.cell? ⟨b,off+k*6,none⟩=(opC o)[0]?:=hcell 0 (by omega);have c1:wr.cell? ⟨b,off+k*6+1,none⟩=(opC o)[1]?:=hcell 1 (by omega);have c2:wr.cell? ⟨b,off+k*6+2,none⟩=(opC o)[2]?:=hcell 2 (by omega);have c3:wr.cell? ⟨b,off+k*6+3,none⟩=(opC o)[3]?:=hcell 3 (by omega);have c4:wr.cell? ⟨b,off+k*6+4,none⟩=(opC o)[4]?:=hcell 4 (by omega);have c5:wr.cell? ⟨b,off+k*6+5,none⟩=(opC o)[5]?:=hcell 5 (by omega);have hgk:=hels.out k hk1;have hcn:=XA (zp v) o (l.take k) S0;have hsn:=QG (zp v) S0 (l.take k) o;have hcl:=zdt (zp v) (l.take k) S0;rw [List.length_take] at hcl;have htk:l.take k++ [o]=l.take (k+1):=by rw [List.take_add_one,hxo];rfl
    rw [htk] at hcn hsn;have heW:=he5.step (by simp) hst hge5;have hgeW:ow2 2=[]:=by rw [hst.agree _ hel5];exact hge5
    have hdo:=zdn hgk (by omega) (by omega) hv (by simp) o hob hW2 heW hgeW;obtain⟨⟨S2,er⟩,hd⟩:∃q,doW (zp v) (ZP (zp v) S0 (l.take k)) o=q:=⟨_,rfl⟩;simp only [hd] at hdo hcn hsn;obtain⟨c,hc⟩:∃c,zb4 (zp v) S0 (l.take k)=c:=⟨_,rfl⟩;rw [hc] at hcn hcl⊢;have hwc:IntKind.i64.wrap ((c:Int)+1)=(c:Int)+1:=by rw [IntKind.wrap_i64];omega
    obtain⟨knd,nod,A,bit,msk,str⟩:=o;simp only [opC] at c0 c1 c2 c3 c4 c5;simp only [List.getElem?_cons_zero,List.getElem?_cons_succ] at c0 c1 c2 c3 c4 c5;unfold opV at hdo;simp only at hdo;replace hxo:=G hxo;replace hr:=G hr;replace hcell:=G hcell;replace hdo:=G hdo;replace hgk:=G hgk;replace hsn:=G hsn;replace hcn:=G hcn;replace hd:=G hd;replace hc:=G hc;replace htk:=G htk;replace hob:=G hob;replace hrowr:=G hrowr;replace hcl:=G hcl
    by_cases her:er=0
    ·have t5:(er==0)=true:=by simpa using her
     have hcn1:zb4 (zp v) S0 (l.take (k+1))=c+1:=by rw [hcn.out,if_pos her]
     replace hcn1:=G hcn1;go_wp2_with fail
     refine hdo.out.mono ?_;rintro e w6⟨rfl,ow6,hs6,hW6⟩;go_wp2
     go_roundw
     case rel=>exact⟨k+1,ow6,by rw [hcn1.out];simp,by simp,by omega,hst.trans hs6,by rw [hsn.out];exact hW6⟩
     case measure=>simp [intOf];omega
    ·have t5:(er==0)=false:=by simpa using her
     have hcn1:zb4 (zp v) S0 (l.take (k+1))=c:=by rw [hcn.out,if_neg her];rfl
     replace hcn1:=G hcn1;go_wp2_with fail
     refine hdo.out.mono ?_;rintro e w6⟨rfl,ow6,hs6,hW6⟩;go_wp2
     go_roundw
     case rel=>exact⟨k+1,ow6,by rw [hcn1.out],by simp,by omega,hst.trans hs6,by rw [hsn.out];exact hW6⟩
     case measure=>simp [intOf];omega
   ·obtain rfl:k=l.length:=by omega
    have t3:decide ((l.length:Int)<(l.length:Int))=false:=by simp
    rw [List.take_length] at hW2⊢;rw [← hS.out] at hW2;rw [← hC.out];have h6:zeq [1] w3 B K SE ow2 wr:=⟨h5.st.trans hst,hW2⟩;have hb6:=h6.bel (by simp);obtain⟨tv6,lp6,hI6⟩:=h6.is;have q4:=QC wr hI6 (by omega);replace hI6:=G hI6;replace q4:=G q4;replace h6:=G h6;have u1:((SE.trace.length:Int) !=(SE.trace.length:Int))=false:=by simp
    have u2:((cE:Int) !=(cE:Int))=false:=by simp
    clear hst hW2 h5 he5 hge5 hel5;go_wp2_with fail
    refine q4.out.mono ?_;rintro e w7⟨xv,rfl,hrx,hb7, -⟩;obtain⟨xa,xc,rfl⟩:=hrx.wideV.shape;have hsy:=(hrt.out.below (zf hb6 hb7)).src;have hsx:=hrx.src;replace hsx:=G hsx;replace hsy:=G hsy;replace hrx:=G hrx;go_wp2
    go_loopw [17] (λp17 wq=>∃k:Nat,p17=.int .i64 (k:Nat)/\k<=SE.trace.length/\Below w7.heap.size w7 wq) (λp17 _=>SE.trace.length - (intOf p17).toNat)
    case atStart=>exact⟨0,rfl,Nat.zero_le _,Below.refl _ _⟩
    case round=>
     obtain⟨k,rfl,hk,hbw⟩:=hrel
     by_cases hlt:k<SE.trace.length
     ·have t4:decide ((k:Int)<(SE.trace.length:Int))=true:=by simpa using hlt
      have y0:(0:Int)<=(k:Int):=by omega
      have y1:(k:Int)<(SE.trace.length:Int):=by omega
      have hwk:IntKind.i64.wrap ((k:Int)+1)=(k:Int)+1:=by rw [IntKind.wrap_i64];omega
      obtain⟨x,hx⟩:∃x,SE.trace[k]?=some x:=⟨_,List.getElem?_eq_getElem hlt⟩;have hx1:=hsx.out.below hbw;have hy1:=hsy.out.below hbw
      obtain⟨xb,xo,rfl⟩:∃b off,xa=some ⟨b,off,none⟩:=by
       rcases hx1.2 with⟨-,h0⟩|⟨b,off,cap,h0, -⟩
       ·omega
       ·cases h0;exact⟨_,_,rfl⟩
      obtain⟨yb,yo,rfl⟩:∃b off,ta=some ⟨b,off,none⟩:=by
       rcases hy1.2 with⟨-,h0⟩|⟨b,off,cap,h0, -⟩
       ·omega
       ·cases h0;exact⟨_,_,rfl⟩
      have a0:=src_hap19 hx1 hx (j:=0) (by omega);have a1:=src_hap19 hx1 hx (j:=1) (by omega);have a2:=src_hap19 hx1 hx (j:=2) (by omega);have a3:=src_hap19 hx1 hx (j:=3) (by omega);have a4:=src_hap19 hx1 hx (j:=4) (by omega);have b0:=src_hap19 hy1 hx (j:=0) (by omega);have b1:=src_hap19 hy1 hx (j:=1) (by omega);have b2:=src_hap19 hy1 hx (j:=2) (by omega);have b3:=src_hap19 hy1 hx (j:=3) (by omega);have b4:=src_hap19 hy1 hx (j:=4) (by omega);have hsm:=hap_same19 x;obtain⟨xk,xn,⟨xi,xcn⟩,xd⟩:=x;simp only [jr,Nat.add_zero] at a0 a1 a2 a3 a4 b0 b1 b2 b3 b4 hsm;simp only [List.getElem?_cons_zero,List.getElem?_cons_succ] at a0 a1 a2 a3 a4 b0 b1 b2 b3 b4;replace hx:=G hx;replace hx1:=G hx1;replace hy1:=G hy1;go_wp2
      go_quiet (fail)
      go_wp2
      go_roundw
      case rel=>exact⟨k+1,by simp,by omega,zdw hbw _⟩
      case measure=>simp [intOf];omega
     ·have t4:decide ((k:Int)<(SE.trace.length:Int))=false:=by simpa using hlt
      go_wp2;go_ret
      exact⟨rfl,zf hb12 (zf hb3 (zf hb6 (zf hb7 hbw)))⟩
end Go.Proofs.YtobnhnidffipjaaGreatDoor
namespace Go.Proofs.YtobnhnidffipjaaGreatDoor.playRuns
open Go Go.RowKit Go.ChangeShapes Go.WideShapes Go.ChangeAt
set_option maxRecDepth 100000 in
theorem contract(H:Type)(enc:TypeId×Value->H)(W:World)(base:Nat)(args:Array Value)(ds gs:List (DataW H))(before:List MemPlace)
 (hval:∀(j:Nat) t v,Tryz.f6.params[j]?=some t->args[j]?=some v->Value.okWide Tryz.prog W .any base t v)
 (hW:DataW.Whole enc Tryz.prog Tryz.f6.params.toList Rows.playRunsSpec.vars false W args.toList ds gs before) (hL:laidMetH Tryz.prog Rows.playRunsRow.laid W):
 Calls Tryz.prog 6 args W λe W'=>∃v,e=.returned v/\Rows.playRunsSpec.post enc Tryz.prog Tryz.f6 false true false false W args v W':=by
 obtain⟨a,he⟩:=Vq hL;have hW':=hW;obtain⟨p,q,hA0,hV,rfl,_,_⟩:=hW;have hA:DataW.TrodAll enc Tryz.prog W 0 (λ_=>true) true Tryz.f6.params.toList args.toList ds p:=hA0;rw [Tryz.params6] at hA hval;obtain⟨v0,vs0,d0,ds0,p0,q0,hargs,rfl,rfl,h0,r0⟩:=trodAll_cons hA;obtain⟨v1,vs1,d1,ds1,p1,q1,rfl,rfl,rfl,h1,r1⟩:=trodAll_cons r0;obtain⟨v2,vs2,d2,ds2,p2,q2,rfl,rfl,rfl,h2,r2⟩:=trodAll_cons r1;obtain⟨rfl,rfl,rfl⟩:=trodAll_nil r2;obtain rfl:args=#[v0,v1,v2]:=by cases args;simp_all
 obtain⟨rfl,rfl⟩:=trodVars_none hV;obtain⟨x,rfl,_,_,_⟩:=open_int Tryz.underlying3 (hval 0 3 v0 rfl rfl) h0;obtain⟨y,rfl,_,_,_⟩:=open_int Tryz.underlying3 (hval 1 3 v1 rfl rfl) h1;obtain⟨s,rfl⟩:=zf1 (hval 2 9 v2 rfl rfl) h2;have walk:=playRuns_true a x y s W he;clear hA0;refine walk.mono λe W' ⟨he,hg⟩=>?_
 subst he;exact⟨_,rfl,zdy zgc (by kernel_rfl) (by kernel_rfl) rfl Tryz.underlying4 rfl hW' hg⟩
theorem reads(os:Os){H:Type}(enc:TypeId×Value->H):∃places,DataW.whole enc Tryz.prog ((qZ os).forCall (λ_ _=>0) ⟨#[],#[.int .i64 0,.int .i64 0,.string ⟨#[]⟩],[]⟩).memory Tryz.f6.params.toList Rows.playRunsSpec.vars false (#[.int .i64 0,.int .i64 0,.string ⟨#[]⟩]:Array Value).toList 8=some ([.lit (.int .i64 0),.lit (.int .i64 0),.lit (.string [])],[],places):=
 ⟨[],by kernel_rfl⟩
set_option maxRecDepth 100000 in
theorem lifted(os:Os)(started:os.Started)(H:Type)(enc:TypeId×Value->H)(F:Stop.Interp):
 ReturnsInHanded {} Tryz.checked os 6 .any ((OpenSpec.ofChange Rows.playRunsSpec).preRow enc Tryz.prog Tryz.f6 Rows.playRunsRow.domain false Rows.playRunsRow.laid) (((OpenSpec.ofChange Rows.playRunsSpec).at F).post enc Tryz.prog Tryz.f6 false true false false):=by
 obtain⟨places,hx⟩:=reads os enc
 refine returnsInHanded_of_row (C:=Tryz.checked) (s:=OpenSpec.ofChange Rows.playRunsSpec) own started (by kernel_rfl) Tryz.func6
  (witness_row_atRef (enc:=enc) (C:=Tryz.checked) false (qZ os) #[.int .i64 0,.int .i64 0,.string ⟨#[]⟩] rfl (by kernel_rfl) (by kernel_rfl) (by kernel_rfl)
   (OpenSpec.preRow_of_cond 8 hx (by kernel_rfl) (λk hk=>by cases hk) (by kernel_rfl) (zdB os _))) ?_
 intro W base args ds gs before hval hW _ _ _ hL _ _;exact contract H enc W base args ds gs before hval hW hL
theorem closed0:(Rows.playRunsRow.inPlace==Tryz.pinned.checked.prog.inPlace 6)=true:=by kernel_rfl
theorem closed1:(Rows.playRunsRow.unfollowed==Tryz.pinned.checked.prog.unfollowed 6)=true:=by kernel_rfl
theorem closed2:(Rows.playRunsRow.recurses==Tryz.pinned.checked.prog.recurses 6)=true:=by kernel_rfl
theorem closed3:(Rows.playRunsRow.named==Tryz.pinned.checked.prog.varsNamed 6)=true:=by kernel_rfl
theorem closed:joinedFacts Tryz.pinned.checked.prog 6 Tryz.f6 (OpenSpec.ofChange Rows.playRunsSpec).bare Rows.playRunsRow=true:=by
 unfold joinedFacts;rw [closed0,closed1,closed2,closed3]
 kernel_rfl
theorem said:Rows.PlayRunsSaid:=
 OpenClaim.holds_of_cond 6 Tryz.f6 rfl rfl rfl rfl rfl rfl rfl ⟨rfl,rfl,rfl,rfl,rfl⟩ rfl rfl rfl rfl rfl (by kernel_rfl) Tryz.func6 closed
  (of_decide_eq_true (by kernel_rfl)) (by unfold Func.isWrapper;first|(rw [if_pos (by decide+kernel)];kernel_rfl)|(rw [if_neg (by decide+kernel)];exact⟨rfl,rfl⟩))
  (λos started H enc _ F=>by rw [OpenClaim.pre_eq_preRow];exact lifted os started H enc F)
theorem plain(f:FuncId)(fn:Func)(hf:Tryz.pinned.checked.prog.funcNamed "rostrum/rostrumlaw19.PlayRuns" =some f)(hfn:Tryz.pinned.checked.prog.funcs[f]?=some fn):
 true=Tryz.pinned.checked.prog.looks [] /\∀(j:Nat) t,fn.params[j]?=some t->Tryz.pinned.checked.prog.wantsStandIn t=false:=by
 obtain rfl:f=6:=Option.some.inj ((show Tryz.prog.funcNamed "rostrum/rostrumlaw19.PlayRuns" =some 6 by kernel_rfl).symm.trans hf)|>.symm
 obtain rfl:fn=Tryz.f6:=(Option.some.inj (Tryz.func6.symm.trans hfn)).symm;refine⟨by kernel_rfl,λj t ht=>?_⟩;rw [Tryz.params6] at ht
 have:t=3∨t=9:=by
  match j,ht with
  |0,h=>exact .inl (by simpa using h.symm)
  |1,h=>exact .inl (by simpa using h.symm)
  |2,h=>exact .inr (by simpa using h.symm)
  |n+3,h=>simp at h
 rcases this with rfl|rfl
 ·exact(show Tryz.prog.wantsStandIn 3=false by kernel_rfl)
 ·exact(show Tryz.prog.wantsStandIn 9=false by kernel_rfl)
theorem card:Rows.PlayRunsCardSaid:=
 Claim7.holds_tied_plain_at .later [] _ _ _ _ said (λ_ h=>by cases h) (by kernel_rfl) (λ_ h=>by cases h) playRuns_row_tie rfl ⟨rfl,rfl⟩ (by kernel_rfl) rfl plain (by kernel_rfl)
end Go.Proofs.YtobnhnidffipjaaGreatDoor.playRuns
