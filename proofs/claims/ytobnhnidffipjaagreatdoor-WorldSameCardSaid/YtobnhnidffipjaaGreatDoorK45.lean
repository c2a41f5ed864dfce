/- PARTS OF THE PROOF. -/
import Derived.Test.YtobnhnidffipjaaGreatDoorK06
import Derived.Test.YtobnhnidffipjaaGreatDoorK44
set_option maxRecDepth 8000
set_option maxHeartbeats 4000000
open Go.Proofs.Tryz
namespace Go.Proofs.YtobnhnidffipjaaGreatDoor
section
open Go Go.RowKit Go.Shelf Go.Extern.Stop Go.Stop Go.Extern
attribute [local go_sem] Oper.semAt_some zw zm
def opV(o:OpD):Value:=.agg #[.int .i64 o.kind,.int .i64 o.node,.int .i64 o.a,.int .i64 o.b,.int .u32 (o.mask:Nat),.string (bs o.s)]
structure zhx(o:OpD):Prop where
 len:o.s.length<=300
 mask:o.mask<4294967296
 b:o.b<9223372036854775808
theorem zr.noteLen {v:Int}{k L:Nat}{S:zl}(h:zr v k L S):∀x∈S.notes,x.2.2.length<=1073741824:=λx hx=>by
 have hn:=h.notes x hx
 rcases hn.form with h1|h1
 ·omega
 ·have:=(h1.dec h.n0.2 hn.dst).1;omega
theorem zr.eraLen {v:Int}{k L:Nat}{S:zl}(h:zr v k L S){i:Nat}(hi:i<S.nodes.length):(zt S i).loc.fold.eras.length<=536870912:=by
 have h1:=(h.node hi).2.ok.bounds;have:=h1.2.2.2.fold.eras;omega
variable {B:Nat}{K:WK}{S:zl}{v:Int}{k0 L:Nat}{t:List Nat}{ow:Own}{a:Addr}{w:World}
theorem zkE(hG:zr v k0 L S)(o:OpD)(h:zy B K S t ow w):Calls prog 55 #[opV o,.pointer (some ⟨K.bx,0,none⟩)] w (vu B K (J4 S o.a).1 t ow w (.int .i64 (J4 S o.a).2)):=by
 have hCC:=λow W hW=>zhs B K S t ow o.a hG.notesN W hW
 obtain⟨knd,nod,A,bit,msk,str⟩:=o;unfold opV
 (try simp only at hCC)
 have hb1:Below w.heap.size w (w.alloc (.cells #[.int .i64 knd,.int .i64 nod,.int .i64 A,.int .i64 bit,.int .u32 (msk:Nat),.string (bs str)] 39)):=zg (N2 _ _) _;have hW1:=(zy.loc B K S t).cut h hb1;have kO:Blk (w.alloc (.cells #[.int .i64 knd,.int .i64 nod,.int .i64 A,.int .i64 bit,.int .u32 (msk:Nat),.string (bs str)] 39)) w.heap.size #[.int .i64 knd,.int .i64 nod,.int .i64 A,.int .i64 bit,.int .u32 (msk:Nat),.string (bs str)] 39:=Blk.new rfl;obtain⟨tv,lp,hI1⟩:=hW1;have e0:=hI1.does.2.2.2.cell;have e1:=kO.cell;have hc:=hCC _ _ ⟨tv,lp,hI1⟩;replace hc:=G hc;replace hI1:=G hI1;clear hCC h
 go_enter func55,ntmps55
 go_wp2_with fail
 refine hc.out.mono ?_;rintro e w2⟨rfl,ow2,hs2,hW2⟩;go_wp2;go_ret
 exact⟨rfl,ow2,zq.wrap hb1 hs2,hW2⟩
theorem zkF(hG:zr v k0 L S)(hL:L<=3000000000)(o:OpD)(h:zy B K S t ow w):Calls prog 57 #[opV o,.pointer (some ⟨K.bx,0,none⟩)] w (vu B K (Yy S o.a).1 t ow w (.int .i64 (Yy S o.a).2)):=by
 have hCC:=λow W hW=>zhu B K S (hG.room hL) t ow o.a W hW
 obtain⟨knd,nod,A,bit,msk,str⟩:=o;unfold opV
 (try simp only at hCC)
 have hb1:Below w.heap.size w (w.alloc (.cells #[.int .i64 knd,.int .i64 nod,.int .i64 A,.int .i64 bit,.int .u32 (msk:Nat),.string (bs str)] 39)):=zg (N2 _ _) _;have hW1:=(zy.loc B K S t).cut h hb1;have kO:Blk (w.alloc (.cells #[.int .i64 knd,.int .i64 nod,.int .i64 A,.int .i64 bit,.int .u32 (msk:Nat),.string (bs str)] 39)) w.heap.size #[.int .i64 knd,.int .i64 nod,.int .i64 A,.int .i64 bit,.int .u32 (msk:Nat),.string (bs str)] 39:=Blk.new rfl;obtain⟨tv,lp,hI1⟩:=hW1;have e0:=hI1.does.2.2.2.cell;have e1:=kO.cell;have hc:=hCC _ _ ⟨tv,lp,hI1⟩;replace hc:=G hc;replace hI1:=G hI1;clear hCC h
 go_enter func57,ntmps57
 go_wp2_with fail
 refine hc.out.mono ?_;rintro e w2⟨rfl,ow2,hs2,hW2⟩;go_wp2;go_ret
 exact⟨rfl,ow2,zq.wrap hb1 hs2,hW2⟩
theorem zkG(hG:zr v k0 L S)(hL:L<=3000000000)(o:OpD)(ho:zhx o)(h:zy B K S t ow w):Calls prog 59 #[opV o,.pointer (some ⟨K.bx,0,none⟩)] w (vu B K (Ji S o.a o.b o.mask).1 t ow w (.int .i64 (Ji S o.a o.b o.mask).2)):=by
 have hCC:=λow W hW=>zhv B K S (hG.room hL) hG.noteLen t ow o.a o.b ho.b o.mask ho.mask W hW
 clear ho;obtain⟨knd,nod,A,bit,msk,str⟩:=o;unfold opV
 (try simp only at hCC)
 have hb1:Below w.heap.size w (w.alloc (.cells #[.int .i64 knd,.int .i64 nod,.int .i64 A,.int .i64 bit,.int .u32 (msk:Nat),.string (bs str)] 39)):=zg (N2 _ _) _;have hW1:=(zy.loc B K S t).cut h hb1;have kO:Blk (w.alloc (.cells #[.int .i64 knd,.int .i64 nod,.int .i64 A,.int .i64 bit,.int .u32 (msk:Nat),.string (bs str)] 39)) w.heap.size #[.int .i64 knd,.int .i64 nod,.int .i64 A,.int .i64 bit,.int .u32 (msk:Nat),.string (bs str)] 39:=Blk.new rfl;obtain⟨tv,lp,hI1⟩:=hW1;have e0:=hI1.does.2.2.2.cell;have e1:=kO.cell;have hc:=hCC _ _ ⟨tv,lp,hI1⟩;replace hc:=G hc;replace hI1:=G hI1;clear hCC h
 go_enter func59,ntmps59
 go_wp2_with fail
 refine hc.out.mono ?_;rintro e w2⟨rfl,ow2,hs2,hW2⟩;go_wp2;go_ret
 exact⟨rfl,ow2,zq.wrap hb1 hs2,hW2⟩
theorem zkH(hG:zr v k0 L S)(hL:L<=3000000000)(ht:t≠ [])(o:OpD)(h:zy B K S t ow w)(he:jz w a)(hge:ow 2=[]):Calls prog 53 #[opV o,.pointer (some ⟨K.bx,0,none⟩)] w (vu B K (Jh S o.a).1 t ow w (.int .i64 (Jh S o.a).2)):=by
 have hCC:=λow W hW h1 h2=>zht B K S hG hL t ht ow a o.a W hW h1 h2
 have hel:=he.lt;obtain⟨knd,nod,A,bit,msk,str⟩:=o;unfold opV
 (try simp only at hCC)
 have hb1:Below w.heap.size w (w.alloc (.cells #[.int .i64 knd,.int .i64 nod,.int .i64 A,.int .i64 bit,.int .u32 (msk:Nat),.string (bs str)] 39)):=zg (N2 _ _) _;have hW1:=(zy.loc B K S t).cut h hb1;have kO:Blk (w.alloc (.cells #[.int .i64 knd,.int .i64 nod,.int .i64 A,.int .i64 bit,.int .u32 (msk:Nat),.string (bs str)] 39)) w.heap.size #[.int .i64 knd,.int .i64 nod,.int .i64 A,.int .i64 bit,.int .u32 (msk:Nat),.string (bs str)] 39:=Blk.new rfl;obtain⟨tv,lp,hI1⟩:=hW1;have e0:=hI1.does.2.2.2.cell;have e1:=kO.cell;have hc:=hCC _ _ ⟨tv,lp,hI1⟩ (he.below hb1 hel) (by rw [Own.cut_old hel];exact hge);replace hc:=G hc;replace hI1:=G hI1;clear hCC h
 go_enter func53,ntmps53
 go_wp2_with fail
 refine hc.out.mono ?_;rintro e w2⟨rfl,ow2,hs2,hW2⟩;go_wp2;go_ret
 exact⟨rfl,ow2,zq.wrap hb1 hs2,hW2⟩
theorem zkI(hG:zr v k0 L S)(hL:L<=3000000000)(ht:t≠ [])(o:OpD)(i:Nat)(hn:o.node=i)(hi:i<S.nodes.length)(h:zy B K S t ow w):Calls prog 51 #[opV o,.pointer (some ⟨K.bx,0,none⟩)] w (vu B K (yq S i).1 t ow w (.int .i64 (yq S i).2)):=by
 have hCC:=λow W hW=>zbS B K S hG hL t ht ow i hi (hG.eraLen hi) W hW
 obtain⟨knd,nod,A,bit,msk,str⟩:=o;unfold opV
 (try simp only at hCC)
 have hb1:Below w.heap.size w (w.alloc (.cells #[.int .i64 knd,.int .i64 nod,.int .i64 A,.int .i64 bit,.int .u32 (msk:Nat),.string (bs str)] 39)):=zg (N2 _ _) _;have hW1:=(zy.loc B K S t).cut h hb1;have kO:Blk (w.alloc (.cells #[.int .i64 knd,.int .i64 nod,.int .i64 A,.int .i64 bit,.int .u32 (msk:Nat),.string (bs str)] 39)) w.heap.size #[.int .i64 knd,.int .i64 nod,.int .i64 A,.int .i64 bit,.int .u32 (msk:Nat),.string (bs str)] 39:=Blk.new rfl;obtain⟨tv,lp,hI1⟩:=hW1;have e0:=hI1.does.2.2.2.cell;have e1:=kO.cell;have hc:=hCC _ _ ⟨tv,lp,hI1⟩;replace hc:=G hc;replace hI1:=G hI1;clear hCC h;subst hn
 go_enter func51,ntmps51
 go_wp2_with fail
 refine hc.out.mono ?_;rintro e w2⟨rfl,ow2,hs2,hW2⟩;go_wp2;go_ret
 exact⟨rfl,ow2,zq.wrap hb1 hs2,hW2⟩
end
section
open Go Go.RowKit Go.ChangeShapes Go.WideShapes Go.ChangeAt Go.Deep
theorem zhy:prog.cellsOf 30=1:=by kernel_rfl
theorem zfQ:prog.cellsOf 9=1:=by kernel_rfl
theorem zbW:prog.cellsOf 39=6:=by kernel_rfl
def vw(o:OpD):List Value:=[.int .i64 o.kind,.int .i64 o.node,.int .i64 o.a,.int .i64 o.b,.int .u32 (o.mask:Nat),.string (bs o.s)]
theorem zfR {n:Int}(h:(Lit.int .u32 n).wf=true):0<=n/\n<4294967296:=by
 simp [Lit.wf] at h
 have hmin:IntKind.u32.min=0:=rfl;have hmax:IntKind.u32.max=4294967295:=rfl;omega
theorem zfS {n:Int}(h:(Lit.int .i64 n).wf=true):n<9223372036854775808:=by
 simp [Lit.wf] at h
 have hmax:IntKind.i64.max=9223372036854775807:=rfl;omega
section
variable {H:Type}{enc:TypeId×Value->H}{w:World}{base:Nat}{held:Bool}
set_option maxRecDepth 100000 in
theorem zbX(fuel:Nat)(cs:List Value)(x:DataW H×List MemPlace)(h:DataW.trod enc prog w base (λ_=>true) held fuel 39 cs=some x):
 ∃p:OpD,cs=vw p/\(p.mask<4294967296/\p.b<9223372036854775808):=by
 obtain⟨ys,n, -, -,hl,hyl,hf⟩:=DataW.trod_struct Tryz.underlying39 h;rw [zbW] at hl
 match cs,hl with
 | [c0,c1,c2,c3,c4,c5],_=>
 match ys,hyl with
 | [y0,y1,y2,y3,y4,y5],_=>
   have h0:=hf 0 _ rfl;have h1:=hf 1 _ rfl;have h2:=hf 2 _ rfl;have h3:=hf 3 _ rfl;have h4:=hf 4 _ rfl;have h5:=hf 5 _ rfl;simp only [List.getElem_toArray,List.getElem_cons_zero,List.getElem_cons_succ,zf9,zhy,zfQ,List.drop_zero,List.take_succ_cons,List.take_zero,List.drop_succ_cons,List.getElem?_cons_zero,List.getElem?_cons_succ] at h0 h1 h2 h3 h4 h5;obtain⟨k,e0, -, -⟩:=DataW.trod_int Tryz.underlying3 h0;obtain⟨i,e1, -, -⟩:=DataW.trod_int Tryz.underlying3 h1;obtain⟨a,e2, -, -⟩:=DataW.trod_int Tryz.underlying3 h2;obtain⟨b,e3, -,wb⟩:=DataW.trod_int Tryz.underlying3 h3;obtain⟨m,e4, -,wm⟩:=DataW.trod_int Tryz.underlying30 h4;obtain⟨s,e5, -, -⟩:=DataW.trod_string Tryz.underlying9 h5;simp at e0 e1 e2 e3 e4 e5
   subst e0 e1 e2 e3 e4 e5;obtain⟨b1,b2⟩:=zfR wm;obtain⟨m,rfl⟩:=Int.eq_ofNat_of_zero_le b1;refine⟨⟨k,i,a,b,m,s.data.toList⟩,?_,by show m<_;omega,zfS wb⟩;unfold vw;simp only [zkt]
set_option maxRecDepth 100000 in
theorem zbY {b0:Nat}{v:Value}{d:DataW H}{p:List MemPlace}(hv:Value.okWide prog w .any b0 22 v)(h:DataW.Trod enc prog w base (λ_=>true) held 22 v d p):
 ∃l:List OpD,qr w v 6 vw l/\(∀p∈l,p.mask<4294967296/\p.b<9223372036854775808)/\l.length<=9223372036854775807:=by
 obtain⟨a,n,c,rfl⟩:=Go.WideShapes.okWide_slice Tryz.underlying22 hv;obtain⟨fuel,hf⟩:=h;exact zes Tryz.underlying22 zbW zbX hf
set_option maxRecDepth 100000 in
theorem ziN {b0:Nat}{v:Value}{d:DataW H}{p:List MemPlace}(hv:Value.okWide prog w .any b0 39 v)(h:DataW.Trod enc prog w base (λ_=>true) held 39 v d p):
 ∃x:OpD,v=opV x/\x.mask<4294967296/\x.b<9223372036854775808:=by
 obtain⟨cs,rfl,hsz⟩:=okWide_struct Tryz.underlying39 hv;obtain⟨fuel,hf⟩:=h;obtain⟨q,hq,h1⟩:=zbX _ _ _ hf;refine⟨q,?_,h1⟩;have:cs.toList=vw q:=by simpa [Value.cells] using hq
 unfold opV;rw [show cs=(vw q).toArray from by rw [← this]];rfl
end
end
section
open Go Go.RowKit Go.Shelf Go.Extern.Stop Go.Stop Go.Extern
attribute [local go_sem] Oper.semAt_some zw zm
variable {B:Nat}{K:WK}{S:zl}{v:Int}{k0 L:Nat}{t:List Nat}{ow:Own}{a:Addr}{w:World}
theorem zkJ(hG:zr v k0 L S)(o:OpD)(i:Nat)(hn:o.node=i)(hi:i<S.nodes.length)(h:zy B K S t ow w):Calls prog 63 #[opV o,.pointer (some ⟨K.bx,0,none⟩)] w (vu B K (setNode S i (zcr (zt S i) o.a).1) t ow w (.int .i64 (zcr (zt S i) o.a).2)):=by
 obtain⟨knd,nod,A,bit,msk,str⟩:=o;simp only at hn;subst hn;unfold opV;have hi16:i<16:=by have:=hG.n0;omega
 have y0:(0:Int)<=(i:Int):=by omega
 have y1:(i:Int)<(S.nodes.length:Int):=by omega
 have hb1:Below w.heap.size w (w.alloc (.cells #[.int .i64 knd,.int .i64 (i:Nat),.int .i64 A,.int .i64 bit,.int .u32 (msk:Nat),.string (bs str)] 39)).drew:=zn (zg (N2 _ _) _);have hW1:=(zy.loc B K S t).cut h hb1;have kO:Blk (w.alloc (.cells #[.int .i64 knd,.int .i64 (i:Nat),.int .i64 A,.int .i64 bit,.int .u32 (msk:Nat),.string (bs str)] 39)) w.heap.size #[.int .i64 knd,.int .i64 (i:Nat),.int .i64 A,.int .i64 bit,.int .u32 (msk:Nat),.string (bs str)] 39:=Blk.new rfl;obtain⟨tv,lp,hI1⟩:=hW1;have hom:(ow.cut w) w.heap.size=[]:=Own.cut_new (N0 _);obtain⟨b,hnb,px,sb,lb,pb,av,hN⟩:=hI1.node hi16 (hG.node hi).1;have hnc:=hI1.nodeCell hnb;have eX:=hI1.does.2.2.2.cell 0;have cB:(w.alloc (.cells #[.int .i64 knd,.int .i64 (i:Nat),.int .i64 A,.int .i64 bit,.int .u32 (msk:Nat),.string (bs str)] 39)).drew.cell? ⟨B,0,none⟩=some (.slice (some ⟨K.nb,0,none⟩) S.nodes.length K.nc):=hI1.blk.cell 0;have hc:=ziA A _ hN;replace hc:=G hc;replace hI1:=G hI1;replace hN:=G hN;replace hnb:=G hnb
 go_enter func63,ntmps63
 go_wp2_with fail
 refine vg [O 0,O 1,O 2,O 3,O 4,O 5,O 6,O 7,O 8,O 9,E 10,O 11] (some 10) (λw'=>w'.cell? ⟨K.bx,0,none⟩=some (.pointer (some ⟨B,0,none⟩))/\w'.cell? ⟨B,0,none⟩=some (.slice (some ⟨K.nb,0,none⟩) S.nodes.length K.nc)/\w'.cell? ⟨K.nb,i,none⟩=some (.pointer (some ⟨b,0,none⟩))/\Blk w' w.heap.size #[.int .i64 knd,.int .i64 (i:Nat),.int .i64 A,.int .i64 bit,.int .u32 (msk:Nat),.string (bs str)] 39/\True) (by kernel_rfl) (by kernel_rfl) ⟨eX,cB,hnc,kO,trivial⟩ ?_
 (repeat (refine zA (v:=?_) rfl rfl (λw' h=>?_) (λK k=>?_);rotate_left;obtain⟨f1,f2,f3,f4,_⟩:=h;have e4:=f4.cell;go_simp;(try with_reducible rfl);go_simp;refine k _ ?_;clear k K))
 refine vt rfl (λJ hJ=>?_);go_wp2_with fail
 refine hc.out.mono ?_;rintro e w2⟨rfl,ow2,hs2,hN2⟩;go_wp2;refine hJ.out _ _ ?_;clear hJ J
 (repeat (refine zA (v:=?_) rfl rfl (λw' h=>?_) (λK k=>?_);rotate_left;go_simp;(try with_reducible rfl);go_simp;refine k _ ?_;clear k K))
 refine jv ?_;go_wp2;go_ret
 exact⟨rfl,ow2,zq.wrap hb1 (hs2.mono (Sub.child t i)),tv,lp,hI1.out.setNode hi16 hnb.out hs2 hN2⟩
theorem zkk(hG:zr v k0 L S)(o:OpD)(i:Nat)(hn:o.node=i)(hi:i<S.nodes.length)(h:zy B K S t ow w):Calls prog 67 #[opV o,.pointer (some ⟨K.bx,0,none⟩)] w (vu B K (setNode S i (Z6 (zt S i) o.a).1) t ow w (.int .i64 (Z6 (zt S i) o.a).2)):=by
 obtain⟨knd,nod,A,bit,msk,str⟩:=o;simp only at hn;subst hn;unfold opV;have hi16:i<16:=by have:=hG.n0;omega
 have y0:(0:Int)<=(i:Int):=by omega
 have y1:(i:Int)<(S.nodes.length:Int):=by omega
 have hb1:Below w.heap.size w (w.alloc (.cells #[.int .i64 knd,.int .i64 (i:Nat),.int .i64 A,.int .i64 bit,.int .u32 (msk:Nat),.string (bs str)] 39)).drew:=zn (zg (N2 _ _) _);have hW1:=(zy.loc B K S t).cut h hb1;have kO:Blk (w.alloc (.cells #[.int .i64 knd,.int .i64 (i:Nat),.int .i64 A,.int .i64 bit,.int .u32 (msk:Nat),.string (bs str)] 39)) w.heap.size #[.int .i64 knd,.int .i64 (i:Nat),.int .i64 A,.int .i64 bit,.int .u32 (msk:Nat),.string (bs str)] 39:=Blk.new rfl;obtain⟨tv,lp,hI1⟩:=hW1;have hom:(ow.cut w) w.heap.size=[]:=Own.cut_new (N0 _);obtain⟨b,hnb,px,sb,lb,pb,av,hN⟩:=hI1.node hi16 (hG.node hi).1;have hnc:=hI1.nodeCell hnb;have eX:=hI1.does.2.2.2.cell 0;have cB:(w.alloc (.cells #[.int .i64 knd,.int .i64 (i:Nat),.int .i64 A,.int .i64 bit,.int .u32 (msk:Nat),.string (bs str)] 39)).drew.cell? ⟨B,0,none⟩=some (.slice (some ⟨K.nb,0,none⟩) S.nodes.length K.nc):=hI1.blk.cell 0;have hc:=zg6 b _ _ _ A _ hN (hG.eraLen hi);replace hc:=G hc;replace hI1:=G hI1;replace hN:=G hN;replace hnb:=G hnb
 go_enter func67,ntmps67
 go_wp2_with fail
 refine vg [O 0,O 1,O 2,O 3,O 4,O 5,O 6,O 7,O 8,O 9,E 10,O 11] (some 10) (λw'=>w'.cell? ⟨K.bx,0,none⟩=some (.pointer (some ⟨B,0,none⟩))/\w'.cell? ⟨B,0,none⟩=some (.slice (some ⟨K.nb,0,none⟩) S.nodes.length K.nc)/\w'.cell? ⟨K.nb,i,none⟩=some (.pointer (some ⟨b,0,none⟩))/\Blk w' w.heap.size #[.int .i64 knd,.int .i64 (i:Nat),.int .i64 A,.int .i64 bit,.int .u32 (msk:Nat),.string (bs str)] 39/\True) (by kernel_rfl) (by kernel_rfl) ⟨eX,cB,hnc,kO,trivial⟩ ?_
 (repeat (refine zA (v:=?_) rfl rfl (λw' h=>?_) (λK k=>?_);rotate_left;obtain⟨f1,f2,f3,f4,_⟩:=h;have e4:=f4.cell;go_simp;(try with_reducible rfl);go_simp;refine k _ ?_;clear k K))
 refine vt rfl (λJ hJ=>?_);go_wp2_with fail
 refine hc.out.mono ?_;rintro e w2⟨rfl,ow2,hs2,hN2⟩;go_wp2;refine hJ.out _ _ ?_;clear hJ J
 (repeat (refine zA (v:=?_) rfl rfl (λw' h=>?_) (λK k=>?_);rotate_left;go_simp;(try with_reducible rfl);go_simp;refine k _ ?_;clear k K))
 refine jv ?_;go_wp2;go_ret
 exact⟨rfl,ow2,zq.wrap hb1 (hs2.mono (Sub.child t i)),tv,lp,hI1.out.setNode hi16 hnb.out hs2 hN2⟩
end
open Go Go.RowKit Go.Shelf Go.Extern.Stop Go.Stop Go.Extern
attribute [local go_sem] Oper.semAt_some zw zm
theorem zh.delLead {B:Nat}{K:WK}{tv:Value}{lp:Nat->Option Nat}{S:zl}{t:List Nat}{ow:Own}{W:World}(h:zh B K tv lp S t ow W)(hnd:(S.leads.map (·.1)).Nodup){i:Nat}
 {ps:List (Int×Value)} {o:Obj} (hd:(ps.map (·.1)).Nodup) (hps:∀j:Nat,zK (j:Int) ps=(lp j).map λb=>.pointer (some ⟨b,0,none⟩)) (hM:zU (W.putObj K.lm o) K.lm Yz (del (i:Int) ps)):
 zq (t++ [17]) ow W ow (W.putObj K.lm o)/\zh B K tv (λj=>if j=i then none else lp j) {S with leads:=del (i:Int) S.leads} t ow (W.putObj K.lm o):=by
 have hho:=h.leadsM.1;have hst:zq (t++ [17]) ow W ow (W.putObj K.lm o):=zq.putObj W K.lm o (by rw [hho];exact Sub.rfl' _);refine⟨hst,h.blk.kept (hst.block h.blk.lt (qC t 17 h.own)),h.own,λj=>?_⟩
 by_cases hj:j=17
 ·subst hj
  refine⟨hho,_,zbG _ hd,hM,λj=>?_⟩;rw [J7 _ _ hd]
  by_cases hji:j=i
  ·subst hji;simp
  ·rw [if_neg (by omega),hps];simp only [if_neg hji]
 by_cases hji:j=i+32
 ·subst hji
  unfold vP;rw [if_neg (by omega),if_neg (by omega),if_neg (by omega),if_neg (by omega),if_neg (by omega),if_neg (by omega),if_neg (by omega),if_neg (by omega),if_neg (by omega),Nat.add_sub_cancel];simp only [if_true,J7 _ _ hnd]
 ·have hw:vP B K tv (λj=>if j=i then none else lp j) {S with leads:=del (i:Int) S.leads} t j=vP B K tv lp S t j:=by
   unfold vP;simp only [if_neg hj]
   by_cases hj32:j<32
   ·simp only [if_pos hj32]
   ·simp only [if_neg (show¬j - 32=i by omega),J7 _ _ hnd,if_neg (show¬((j - 32:Nat):Int)=(i:Int)by omega)]
  rw [hw];exact(Zr B K tv lp S t j).step (h.part j) hst (zC t (Ne.symm hj))
variable {B:Nat}{K:WK}{S:zl}{v:Int}{k0 L:Nat}{t:List Nat}{ow:Own}{a:Addr}{w:World}
theorem zkK(hG:zr v k0 L S)(o:OpD)(i:Nat)(hn:o.node=i)(hi:i<S.nodes.length)(h:zy B K S t ow w):Calls prog 61 #[opV o,.pointer (some ⟨K.bx,0,none⟩)] w (vu B K (setNode {S with leads:=del (i:Int) S.leads} i (xP (zt S i)).1) t ow w (.int .i64 (xP (zt S i)).2)):=by
 obtain⟨knd,nod,A,bit,msk,str⟩:=o;simp only at hn;subst hn;unfold opV;have hi16:i<16:=by have:=hG.n0;omega
 have y0:(0:Int)<=(i:Int):=by omega
 have y1:(i:Int)<(S.nodes.length:Int):=by omega
 have hb1:Below w.heap.size w (w.alloc (.cells #[.int .i64 knd,.int .i64 (i:Nat),.int .i64 A,.int .i64 bit,.int .u32 (msk:Nat),.string (bs str)] 39)).drew:=zn (zg (N2 _ _) _);have hW1:=(zy.loc B K S t).cut h hb1;have kO:Blk (w.alloc (.cells #[.int .i64 knd,.int .i64 (i:Nat),.int .i64 A,.int .i64 bit,.int .u32 (msk:Nat),.string (bs str)] 39)).drew w.heap.size #[.int .i64 knd,.int .i64 (i:Nat),.int .i64 A,.int .i64 bit,.int .u32 (msk:Nat),.string (bs str)] 39:=(Blk.new rfl).drew;obtain⟨tv,lp,hI1⟩:=hW1;have hom:(ow.cut w) w.heap.size=[]:=Own.cut_new (N0 _);obtain⟨w1,hw1⟩:∃x,x=w.alloc (.cells #[.int .i64 knd,.int .i64 (i:Nat),.int .i64 A,.int .i64 bit,.int .u32 (msk:Nat),.string (bs str)] 39):=⟨_,rfl⟩;obtain⟨ow1,how⟩:∃x,x=ow.cut w:=⟨_,rfl⟩;rw [← how] at hI1 hom;replace how:=G how;rw [← hw1] at hb1 kO hI1;have eX:=hI1.does.2.2.2.cell 0;have hnl:S.nodes.length=S.nodes.length:=rfl;have cB:World.cell? _ ⟨B,2,none⟩=some (.map (some K.lm)):=(hI1).blk.cell 2;obtain⟨hho,ps,hd,hM,hps⟩:=(hI1).leadsM;obtain⟨od,hdel,hM2⟩:=hM.delete zaf Tryz.underlying67 #[67,120] 0 rfl (i:Int);unfold Yz at hdel;obtain⟨hs2,hI2⟩:=(hI1).delLead hG.leadsN hd hps hM2;have kO2:=(kO).putObj (λe=>by rw [e] at hom;rw [hho] at hom;simp at hom) od;replace hps:=G hps;replace hM:=G hM;replace hM2:=G hM2;replace hho:=G hho;obtain⟨b,hnb,px,sb,lb,pb,av,hN⟩:=(hI2).node hi16 (hG.node hi).1;have hnc:=(hI2).nodeCell hnb;have eX2:=(hI2).does.2.2.2.cell 0;have cB2:World.cell? _ ⟨B,0,none⟩=some (.slice (some ⟨K.nb,0,none⟩) S.nodes.length K.nc):=(hI2).blk.cell 0;have hN':=(zx.loc b px sb lb pb av (zt S i) (t++ [i])).below hN (zn (N2 _ _));have hc:=zfc _ hN';have hI2':=(zh.loc B K tv _ _ t).below hI2 (zn (N2 _ _));replace hc:=G hc;replace hI2':=G hI2';replace hI1:=G hI1;replace hN:=G hN;replace hN':=G hN';replace hnb:=G hnb
 go_enter func61,ntmps61
 go_wp2_with fail
 rw [← hw1];clear hw1;refine zd [O 0,O 1,O 2,O 3,O 4,O 5,E 6,E 7] none (λw'=>w'.cell? ⟨K.bx,0,none⟩=some (.pointer (some ⟨B,0,none⟩))/\w'.cell? ⟨B,2,none⟩=some (.map (some K.lm))/\Blk w' w.heap.size #[.int .i64 knd,.int .i64 (i:Nat),.int .i64 A,.int .i64 bit,.int .u32 (msk:Nat),.string (bs str)] 39/\True) (by kernel_rfl) (by kernel_rfl) ⟨eX,cB,kO,trivial⟩ ?_
 (repeat (refine za (v:=?_) rfl rfl (λw' h=>?_) (λK k=>?_);rotate_left;obtain⟨f1,f2,f3,f4,_⟩:=h;(try have e1:=f1.cell);(try have e2:=f2.cell);(try have e3:=f3.cell);(try have e4:=f4.cell);go_simp;(try with_reducible rfl);go_simp;refine k _ ?_;clear k K))
 refine zc rfl (λJ hJ=>?_);go_wp2;refine hJ.out _ _ (λ_=>⟨eX,cB,kO,trivial⟩) ?_;clear hJ J;refine zc rfl (λJ hJ=>?_);refine j8 rfl _ _ _ _ rfl rfl rfl hdel ?_;unfold wpList;refine hJ.out _ _ (λ_=>⟨eX2,hI2.blk.cell 2,kO2,trivial⟩) ?_;clear hJ J;refine zf ?_;go_wp2_with fail
 refine vg [O 0,O 1,O 2,O 3,O 4,O 5,O 6,O 7,E 8,O 9] (some 8) (λw'=>w'.cell? ⟨K.bx,0,none⟩=some (.pointer (some ⟨B,0,none⟩))/\w'.cell? ⟨B,0,none⟩=some (.slice (some ⟨K.nb,0,none⟩) S.nodes.length K.nc)/\w'.cell? ⟨K.nb,i,none⟩=some (.pointer (some ⟨b,0,none⟩))/\Blk w' w.heap.size #[.int .i64 knd,.int .i64 (i:Nat),.int .i64 A,.int .i64 bit,.int .u32 (msk:Nat),.string (bs str)] 39/\True) (by kernel_rfl) (by kernel_rfl) ⟨eX2,cB2,hnc,kO2,trivial⟩ ?_
 (repeat (refine zA (v:=?_) rfl rfl (λw' h=>?_) (λK k=>?_);rotate_left;obtain⟨f1,f2,f3,f4,_⟩:=h;have e4:=f4.cell;go_simp;(try with_reducible rfl);go_simp;refine k _ ?_;clear k K))
 refine vt rfl (λJ hJ=>?_);go_wp2_with fail
 refine hc.out.mono ?_;rintro e w3⟨rfl,ow3,hs3,hN3⟩;go_wp2;refine hJ.out _ _ ?_;clear hJ J
 (repeat (refine zA (v:=?_) rfl rfl (λw' h=>?_) (λK k=>?_);rotate_left;go_simp;(try with_reducible rfl);go_simp;refine k _ ?_;clear k K))
 refine jv ?_;go_wp2;go_ret
 exact⟨rfl,ow3,zq.wrap hb1 (by rw [← how.out];exact((hs2.mono (Sub.child t 17)).trans (zq.drew _ _ _)).trans (hs3.mono (Sub.child t i))),tv,_,hI2'.out.setNode hi16 hnb.out hs3 hN3⟩
theorem zkL(hG:zr v k0 L S)(hv:known v=true)(ht:t≠ [])(o:OpD)(i:Nat)(hn:o.node=i)(hi:i<S.nodes.length)(h:zy B K S t ow w)(he:jz w a)(hge:ow 2=[]):Calls prog 65 #[opV o,.pointer (some ⟨K.bx,0,none⟩)] w (vu B K (setNode {ZX S i with leads:=del (i:Int) S.leads} i (yN (zt S i) (zo v))) t ow w (.int .i64 0)):=by
 obtain⟨knd,nod,A,bit,msk,str⟩:=o;simp only at hn;subst hn;unfold opV;have hi16:i<16:=by have:=hG.n0;omega
 have y0:(0:Int)<=(i:Int):=by omega
 have y1:(i:Int)<(S.nodes.length:Int):=by omega
 have hb1:Below w.heap.size w (w.alloc (.cells #[.int .i64 knd,.int .i64 (i:Nat),.int .i64 A,.int .i64 bit,.int .u32 (msk:Nat),.string (bs str)] 39)).drew:=zn (zg (N2 _ _) _);have hW1:=(zy.loc B K S t).cut h hb1;have kO:Blk (w.alloc (.cells #[.int .i64 knd,.int .i64 (i:Nat),.int .i64 A,.int .i64 bit,.int .u32 (msk:Nat),.string (bs str)] 39)).drew w.heap.size #[.int .i64 knd,.int .i64 (i:Nat),.int .i64 A,.int .i64 bit,.int .u32 (msk:Nat),.string (bs str)] 39:=(Blk.new rfl).drew;obtain⟨tv,lp,hI1⟩:=hW1;have hom:(ow.cut w) w.heap.size=[]:=Own.cut_new (N0 _);obtain⟨w1,hw1⟩:∃x,x=w.alloc (.cells #[.int .i64 knd,.int .i64 (i:Nat),.int .i64 A,.int .i64 bit,.int .u32 (msk:Nat),.string (bs str)] 39):=⟨_,rfl⟩;obtain⟨ow1,how⟩:∃x,x=ow.cut w:=⟨_,rfl⟩;rw [← how] at hI1 hom;replace how:=G how;rw [← hw1] at hb1 kO hI1;have eX:=hI1.does.2.2.2.cell 0;have hnl:S.nodes.length=S.nodes.length:=rfl;have cB1:World.cell? w1.drew ⟨B,1,none⟩=some (.slice (some ⟨K.sb,0,none⟩) S.nodes.length S.nodes.length):=hI1.blk.cell 1;obtain⟨os0,ol0,hs0⟩:=hI1.srow;have g3:World.cell? w1.drew ⟨K.sb,i*5+3,none⟩=some (.bool (jC S i).stale):=hs0.cellL (jo (hG.seat hi) (j:=3) (by decide));have f3:∀o,World.frozen? w1.drew ⟨K.sb,o,none⟩=false:=hs0.frozen;have l3:K.sb<w1.drew.heap.size:=hs0.lt;obtain⟨hsA,hIA0⟩:=hI1.setSeat (v:=.bool true) (s':={jC S i with stale:=true}) (hG.seat hi) (j:=3) (by decide) rfl;have kOA:Blk (w1.drew.setCell ⟨K.sb,i*5+3,none⟩ (.bool true)) w.heap.size #[.int .i64 knd,.int .i64 (i:Nat),.int .i64 A,.int .i64 bit,.int .u32 (msk:Nat),.string (bs str)] 39:=kO.other (p:=⟨K.sb,i*5+3,none⟩) (λe=>by have e':w.heap.size=K.sb:=e;rw [e',os0] at hom;simp at hom) _;have hIA:=(zh.loc B K tv lp _ t).below hIA0 (zn (N2 _ _));have hstA:zq t ow1 w1.drew ow1 (w1.drew.setCell ⟨K.sb,i*5+3,none⟩ (.bool true)).drew:=(hsA.mono (Sub.child t 21)).trans (zq.drew _ _ _);have eXA:=hIA.does.2.2.2.cell 0;have kOA':Blk (w1.drew.setCell ⟨K.sb,i*5+3,none⟩ (.bool true)).drew w.heap.size #[.int .i64 knd,.int .i64 (i:Nat),.int .i64 A,.int .i64 bit,.int .u32 (msk:Nat),.string (bs str)] 39:=kOA.drew;replace hs0:=G hs0;replace hIA0:=G hIA0;replace hI1:=G hI1;have cB:World.cell? _ ⟨B,2,none⟩=some (.map (some K.lm)):=(hIA).blk.cell 2;obtain⟨hho,ps,hd,hM,hps⟩:=(hIA).leadsM;obtain⟨od,hdel,hM2⟩:=hM.delete zaf Tryz.underlying67 #[67,120] 0 rfl (i:Int);unfold Yz at hdel;obtain⟨hs2,hI2⟩:=(hIA).delLead hG.leadsN hd hps hM2;have kO2:=(kOA').putObj (λe=>by rw [e] at hom;rw [hho] at hom;simp at hom) od;replace hps:=G hps;replace hM:=G hM;replace hM2:=G hM2;replace hho:=G hho;obtain⟨b,hnb,px,sb,lb,pb,av,hN⟩:=(hI2).node hi16 (hG.node hi).1;have hnc:=(hI2).nodeCell hnb;have eX2:=(hI2).does.2.2.2.cell 0;have cB2:World.cell? _ ⟨B,0,none⟩=some (.slice (some ⟨K.nb,0,none⟩) S.nodes.length K.nc):=(hI2).blk.cell 0;have hN':=(zx.loc b px sb lb pb av (zt S i) (t++ [i])).below hN (zn (N2 _ _));have hI2':=(zh.loc B K tv _ _ t).below hI2 (zn (N2 _ _));have hstB:zq t ow w ow1 ((w1.drew.setCell ⟨K.sb,i*5+3,none⟩ (.bool true)).drew.putObj K.lm od).drew:=zq.wrap hb1 (by rw [← how.out];exact(hstA.trans (hs2.mono (Sub.child t 17))).trans (zq.drew _ _ _));have hel:=he.lt;have hc:=zbm a b _ _ (by simp) _ _ hN' (he.step ht hstB hge) (by rw [how.out,Own.cut_old hel];exact hge) (by rw [show(zt S i).version=v from(hG.node hi).2.ver];exact hv) (by have:=(hG.node hi).2.ok.bounds.1;exact this);rw [show(zt S i).version=v from(hG.node hi).2.ver] at hc;replace hc:=G hc;replace hI2':=G hI2';replace hN:=G hN;replace hN':=G hN';replace hnb:=G hnb
 go_enter func65,ntmps65
 go_wp2_with fail
 rw [← hw1];clear hw1;refine zd [O 0,O 1,O 2,O 3,O 4,O 5,O 6,O 7,E 8] (some 8) (λw'=>w'.cell? ⟨K.bx,0,none⟩=some (.pointer (some ⟨B,0,none⟩))/\w'.cell? ⟨B,1,none⟩=some (.slice (some ⟨K.sb,0,none⟩) S.nodes.length S.nodes.length)/\Blk w' w.heap.size #[.int .i64 knd,.int .i64 (i:Nat),.int .i64 A,.int .i64 bit,.int .u32 (msk:Nat),.string (bs str)] 39/\True) (by kernel_rfl) (by kernel_rfl) ⟨eX,cB1,kO,trivial⟩ ?_
 (repeat (refine za (v:=?_) rfl rfl (λw' h=>?_) (λK k=>?_);rotate_left;obtain⟨f1,f2,f3,f4,_⟩:=h;(try have e1:=f1.cell);(try have e2:=f2.cell);(try have e3:=f3.cell);(try have e4:=f4.cell);go_simp;(try with_reducible rfl);go_simp;refine k _ ?_;clear k K))
 refine zc rfl (λJ hJ=>?_);go_wp2;refine hJ.out _ _ (λhh=>absurd rfl hh) ?_;clear hJ J;refine zf ?_;go_wp2_with fail
 refine zd [O 0,O 1,O 2,O 3,O 4,O 5,E 6,E 7] none (λw'=>w'.cell? ⟨K.bx,0,none⟩=some (.pointer (some ⟨B,0,none⟩))/\w'.cell? ⟨B,2,none⟩=some (.map (some K.lm))/\Blk w' w.heap.size #[.int .i64 knd,.int .i64 (i:Nat),.int .i64 A,.int .i64 bit,.int .u32 (msk:Nat),.string (bs str)] 39/\True) (by kernel_rfl) (by kernel_rfl) ⟨eXA,cB,kOA',trivial⟩ ?_
 (repeat (refine za (v:=?_) rfl rfl (λw' h=>?_) (λK k=>?_);rotate_left;obtain⟨f1,f2,f3,f4,_⟩:=h;(try have e1:=f1.cell);(try have e2:=f2.cell);(try have e3:=f3.cell);(try have e4:=f4.cell);go_simp;(try with_reducible rfl);go_simp;refine k _ ?_;clear k K))
 refine zc rfl (λJ hJ=>?_);go_wp2;refine hJ.out _ _ (λ_=>⟨eXA,cB,kOA',trivial⟩) ?_;clear hJ J;refine zc rfl (λJ hJ=>?_);refine j8 rfl _ _ _ _ rfl rfl rfl hdel ?_;unfold wpList;refine hJ.out _ _ (λ_=>⟨eX2,hI2.blk.cell 2,kO2,trivial⟩) ?_;clear hJ J;refine zf ?_;go_wp2_with fail
 refine vg [O 0,O 1,O 2,O 3,O 4,O 5,O 6,O 7,E 8,O 9] (some 8) (λw'=>w'.cell? ⟨K.bx,0,none⟩=some (.pointer (some ⟨B,0,none⟩))/\w'.cell? ⟨B,0,none⟩=some (.slice (some ⟨K.nb,0,none⟩) S.nodes.length K.nc)/\w'.cell? ⟨K.nb,i,none⟩=some (.pointer (some ⟨b,0,none⟩))/\Blk w' w.heap.size #[.int .i64 knd,.int .i64 (i:Nat),.int .i64 A,.int .i64 bit,.int .u32 (msk:Nat),.string (bs str)] 39/\True) (by kernel_rfl) (by kernel_rfl) ⟨eX2,cB2,hnc,kO2,trivial⟩ ?_
 (repeat (refine zA (v:=?_) rfl rfl (λw' h=>?_) (λK k=>?_);rotate_left;obtain⟨f1,f2,f3,f4,_⟩:=h;have e4:=f4.cell;go_simp;(try with_reducible rfl);go_simp;refine k _ ?_;clear k K))
 refine vt rfl (λJ hJ=>?_);go_wp2_with fail
 refine hc.out.mono ?_;rintro e w3⟨rfl,ow3,hs3,hN3⟩;go_wp2;refine hJ.out _ _ ?_;clear hJ J
 (repeat (refine zA (v:=?_) rfl rfl (λw' h=>?_) (λK k=>?_);rotate_left;go_simp;(try with_reducible rfl);go_simp;refine k _ ?_;clear k K))
 refine jv ?_;go_wp2;go_ret
 exact⟨rfl,ow3,hstB.trans (hs3.mono (Sub.child t i)),tv,_,hI2'.out.setNode hi16 hnb.out hs3 hN3⟩
