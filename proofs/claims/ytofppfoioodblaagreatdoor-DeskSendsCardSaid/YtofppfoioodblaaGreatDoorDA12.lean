/- PARTS OF THE PROOF. -/
import Derived.Deep.Slices
import Derived.Deep.Fields
import Derived.ChangeSame
import Derived.Test.YtofppfoioodblaaGreatDoorDA11
set_option maxRecDepth 8000
set_option maxHeartbeats 4000000
open Go.Proofs.Tryz
namespace Go.Proofs.YtofppfoioodblaaGreatDoor
section
open Go Go.RowKit Go.Shelf Go.Extern.Stop Go.Stop Go.Extern Go.Lib
attribute [local go_sem] Oper.semAt_some zB zo
theorem zf2 {w:World}{v:Value}{l s:List UInt8}(h:Row w 5 1 v l.length (u8s l))(hb:l.length+s.length<=1073741824)(ty:TypeId):
 ∃v' w',(Builtin.append_ #[49,9] ty #[v,.string (bs s)]).run prog w=.ok v' w'/\Row w' 5 1 v' (l++s).length (u8s (l++s))/\w.grownBy w' v.ownBlock/\(v'.ownBlock=v.ownBlock∨v'.ownBlock=some w.heap.size):=by
 obtain⟨v',w',h1,h2,h3⟩:=Xk (base:=0) h hb (Nat.zero_le _) ty;refine⟨v',w',h1,h2,h3,?_⟩;obtain⟨i,hi,ad,ac,ae⟩:=info_parts JN.info
 have same:∀v2 w2,(Builtin.append_ #[49,9] ty #[v,.string (bs s)]).run prog w=.ok v2 w2->v'=v2:=λv2 w2 e=>by
  have:=h1.symm.trans e
  cases this;rfl
 have aa:=zI s
 rcases h.2 with⟨rfl,hn⟩|⟨g,cap,cur,rfl, -,hg,hc,hm,hs,ht⟩
 ·by_cases hm:s.length=0
  ·obtain rfl:s=[]:=N9 hm
   have hf:=run_firstCells_string (P:=prog) w 1 (bs [])
   have:=same (.slice none 0 0) w (by
    rw [zI,List.length_nil] at hf
    simp [Builtin.append_,run_underlying JN.under,run_underlying Tryz.underlying9,sizeOf,typeInfo,hi,ac,Builtin.lenOf,zI,hf])
   rw [this];exact .inl rfl
  have hr:=run_append_nil_string (P:=prog) w 49 9 ty 5 i (.int .u8 0) JN.under Tryz.underlying9 hi ad (bs s) (by rw [aa];omega) (by rw [aa];omega) (by rw [aa,ae];omega)
  rw [same _ _ hr];exact .inr rfl
 by_cases hroom:l.length+(bs s).size<=cap
 ·have hr:=run_append_room_string (P:=prog) w 49 9 ty 5 i JN.under Tryz.underlying9 hi ac g l.length cap cur hg (bs s) hroom (by omega)
  rw [same _ _ hr];exact .inl rfl
 have af:(u8s l).length=l.length:=by simp [u8s]
 have ab:∀j u,(u8s l)[j]?=some u->w.cell? ((⟨g,0,none⟩:Addr).add j)=some u:=World.ownsRow.cells (base:=0) h (g:=g) rfl;have hr:=run_append_grow_string (P:=prog) w 49 9 ty 5 i (.int .u8 0) JN.under Tryz.underlying9 hi ad ⟨g,0,none⟩ l.length cap (u8s l) (by rw [ac,af];simp) ab (bs s) (by omega) (by rw [aa];omega) (by rw [ae];exact growslice_fits (by rw [aa];omega) (by omega));rw [same _ _ hr];exact .inr rfl
def ZB(D B:Nat)(told:List UInt8)(t:List Nat)(ow:Own)(W:World):Prop:=
 ∃tv,Blk W D #[.pointer (some ⟨B,0,none⟩),tv] 104/\Row W 5 1 tv told.length (u8s told)/\ow D=t/\∀g,tv.ownBlock=some g->ow g=t
theorem ZB.loc(D B:Nat)(told:List UInt8)(t:List Nat):yC t (ZB D B told t):=by
 rintro ow ow' W W'⟨tv,hD,hR,o1,o2⟩ hs hk;have kD:=hk D hD.lt (by rw [o1];exact Sub.rfl' t);have kR:=λg hg=>hk g (hR.lt hg) (by rw [o2 g hg];exact Sub.rfl' t)
 exact⟨tv,hD.kept kD.2,hR.kept (λg hg=>(kR g hg).2),kD.1.trans o1,λg hg=>(kR g hg).1.trans (o2 g hg)⟩
def zj3(D B:Nat)(told:List UInt8)(t:List Nat)(ow:Own)(w:World)(e:Ending)(w':World):Prop:=
 e=.returned (.tuple #[])/\∃ow',zp t ow w ow' w'/\ZB D B told t ow' w'
theorem ZB.tells {D B:Nat}{l l':List UInt8}{t:List Nat}{ow:Own}{w w1 w2:World}{tv tv':Value}(hD:Blk w D #[.pointer (some ⟨B,0,none⟩),tv] 104)(hR:Row w 5 1 tv l.length (u8s l))(o1:ow D=t)(o2:∀g,tv.ownBlock=some g->ow g=t)
 (hb:Below w.heap.size w w1) (hrow:Row w2 5 1 tv' l'.length (u8s l')) (hgr:w1.grownBy w2 tv.ownBlock) (hown:tv'.ownBlock=tv.ownBlock∨tv'.ownBlock=some w1.heap.size):
 ∃ow',zp t ow w ow' (w2.setCell ⟨D,1,none⟩ tv')/\ZB D B l' t ow' (w2.setCell ⟨D,1,none⟩ tv')/\Blk w2 D #[.pointer (some ⟨B,0,none⟩),tv] 104:=by
 have ac:∀g,tv.ownBlock=some g->g≠D:=λg hg=>hR.ne_blk hD (by decide) hg
 have ab:=hD.call hb;have aa:Blk w2 D #[.pointer (some ⟨B,0,none⟩),tv] 104:=ab.kept (hgr.block D ab.lt (λe=>ac _ e.symm rfl));have ae:=hb.size
 have hm:Mod (λk=>Sub t (ow k)) w (w2.setCell ⟨D,1,none⟩ tv'):=
  ((Mod.of_below _ hb).trans (Mod.grown (W:=w1) (W':=w2) (row:=tv.ownBlock) hgr (X:=λk=>Sub t (ow k)) (λk h=>by rw [o2 k h];exact Sub.rfl' t)) (λ_ _ e=>e) (λ_ _ e=>e)).thenSet (p:=⟨D,1,none⟩) (by show Sub t (ow D);rw [o1];exact Sub.rfl' t) _
 refine⟨ow.ext w.heap.size (λk=>tv'.ownBlock=some k) t,⟨hm,λk hk=>Own.ext_old hk⟩,⟨tv',aa.set _,hrow.kept (λg hg=>N4 _ _ _ _ (hrow.ne_blk aa (by decide) hg)),by rw [Own.ext_old hD.lt];exact o1,λg hg=>?_⟩,aa⟩;rw [hg] at hown
 rcases hown with e|e
 ·rw [Own.ext_old (hR.lt e.symm)];exact o2 g e.symm
 have ad:g=w1.heap.size:=by simpa using e
 rw [Own.ext_new (by omega) hg]
theorem zj4(w:World):Src (w.alloc (.cells #[.int .u8 10] 5)) (.slice (some ⟨w.heap.size,0,none⟩) 1 1) 1 1 (u8s [10]):=jD (n:=1) (size:=1) (cap:=1) (Blk.new rfl) rfl (N0 1)
theorem zj5(l:List UInt8):∀u∈u8s l,u.oneCell'=true:=λu hu=>by simp [u8s] at hu;obtain⟨b, -,rfl⟩:=hu;rfl
theorem ZT {D B bk o c:Nat}{told:List UInt8}{t:List Nat}{ow:Own}(ws:List (List UInt8))(hn:1<=ws.length/\ws.length<=100000/\ws.length<=c)(hl:(Lib.join ws [32]).length<=1000000)(htl:told.length<=10000000)(w:World)
 (hc:∀(j:Nat) x,ws[j]?=some x->w.cell? ⟨bk,o+j,none⟩=some (Zc x)) (h:ZB D B told t ow w):
 Calls prog 126 #[.pointer (some ⟨D,0,none⟩),.slice (some ⟨bk,o,none⟩) ws.length c] w (zj3 D B (told++xN ws) t ow w):=by
 have bd:bk<w.heap.size:=by
  obtain⟨x,hx⟩:∃x,ws[0]?=some x:=⟨_,N3 (by omega)⟩;exact jx (hc 0 x hx)
 have am:(ws.map bs).map (λx:ByteArray=>x.data.toList)=ws:=by
  rw [List.map_map]
  conv=>rhs;rw [← List.map_id ws]
  exact List.map_congr_left (λx _=>xE x)
 have ai:∀W,Below w.heap.size w W->Calls prog 138 #[.slice (some ⟨bk,o,none⟩) ws.length c,.string ⟨#[32]⟩] W λe w'=>e=.returned (.string (bs (Lib.join ws [32])))/\Below W.heap.size W w':=λW hW=>by
  have:=Tryz.strings_Join bk o c (ws.map bs) ⟨#[32]⟩ W (λj x hx=>by
   obtain⟨y,hy,rfl⟩:=Option.map_eq_some_iff.1 ((List.getElem?_map ..).symm.trans hx)
   exact(hW.cell (jx (hc j y hy))).trans (hc j y hy)) (by have:=hW.size;omega) (by rw [List.length_map];omega) (by rw [List.length_map];omega) (by rw [am];show(Lib.join ws [32]).length<=_;omega)
  rw [List.length_map,am] at this;exact this
 obtain⟨tv,hD,hR,o1,o2⟩:=h;have al:xN ws=Lib.join ws [32] ++ [10]:=rfl;obtain⟨jn,an⟩:∃j,Lib.join ws [32]=j:=⟨_,rfl⟩;rw [an] at ai hl al;rw [al,← List.append_assoc];replace ai:=hid ai;replace hc:=hid hc;replace an:=hid an;replace al:=hid al;replace am:=hid am;replace o2:=hid o2
 go_enter func126,ntmps126
 go_wp2_with fail
 refine zd [O 0,O 1,O 2,O 3,O 4,O 5,E 6,E 7,O 8,O 9,E 10] (some 10) (λw'=>Blk w' D #[.pointer (some ⟨B,0,none⟩),tv] 104/\True) (by kernel_rfl) (by kernel_rfl) ⟨hD.drew,trivial⟩ ?_
 refine Wd ?_
 refine zc rfl (λK hK=>?_);go_wp2_with fail
 refine(ai.out _ (zm (N2 _ _))).mono ?_;rintro e w2⟨rfl,ay⟩;have a1:=hD.drew.call ay;have ag:Below w.heap.size w w2:=ze (zm (N2 _ _)) ay;go_wp2;refine hK.out _ _ (λ_=>⟨a1,trivial⟩) ?_;clear hK K;obtain⟨a3,w3,ac,ad,aq,ae⟩:=zf2 (s:=jn) (hR.below ag) (by omega) 49;obtain⟨be,aj,ak,af⟩:=ZB.tells hD hR o1 o2.out ag ad aq ae;refine zc rfl (λK hK=>?_);refine qN rfl _ _ _ _ rfl rfl rfl ac ?_;unfold wpList;refine hK.out _ _ (λ_=>⟨af,trivial⟩) ?_;clear hK K;obtain⟨ta,tc,rfl⟩:=(show Src w3 a3 1 (told.length+jn.length) (u8s (told++jn))by have:=ad.src;rwa [N1] at this).shape;have a4:=af.frozen;have a6:=af.cell;have a7:=af.lt;replace ad:=hid ad;replace aq:=hid aq;replace ae:=hid ae;replace ak:=hid ak;replace aj:=hid aj
 refine Wd ?_
 refine zc rfl (λK hK=>?_);go_wp2;refine hK.out _ _ (λh=>absurd rfl h) ?_;clear hK K a4 a6 a7;refine zg ?_;obtain⟨w4,a0⟩:∃x,x=w3.setCell ⟨D,1,none⟩ (.slice ta (told.length+jn.length) tc):=⟨_,rfl⟩;rw [← a0] at aj ak⊢;clear a0 af a1 ac hR hD;obtain⟨bc,ap,a2,a5,aw⟩:=ak.out;have e4:=ap.cell;have l4:=ap.lt;replace aw:=hid aw
 go_wp2_with (at_builtin
              obtain⟨az,w5,ac,ab,ar,ah⟩:=zM JN (a2.below (zi (N2 _ _) (.cells #[.int .u8 10] 5))) (zj4 w4) (zj5 [10]) (by rw [N1];omega) 49;have aa:Row w5 5 1 az (told++jn++ [10]).length (u8s (told++jn++ [10])):=by rw [N1,Jh];exact ab
              obtain⟨a8,ax,ao,au⟩:=ZB.tells ap a2 a5 aw.out (zi (N2 _ _) (.cells #[.int .u8 10] 5)) aa ar ah;have a9:=au.frozen;have ba:=au.cell;have bb:=au.lt;obtain⟨t5,c5,rfl⟩:=(show Src w5 az 1 ((told++jn).length+1) (u8s (told++jn++ [10]))by have:=aa.src;rwa [N1] at this).shape;replace ab:=hid ab;replace aa:=hid aa;replace ao:=hid ao;replace ax:=hid ax
              refine zv rfl _ _ _ rfl rfl rfl ac ?_)
 go_end0
 have e1:=ax.out;have e2:=ao.out;rw [N1] at e1 e2;exact⟨rfl,a8,aj.out.trans e1,e2⟩
end
section
open Go
def VF(s:Nat):Nat:=if s % 2=1 then(s / 2)^^^ 3988292384 else s / 2
def ZU:Nat->Nat->Nat
 |0,s=>s
 |n+1,s=>ZU n (VF s)
def vI(s:Nat)(b:UInt8):Nat:=ZU 8 (s ^^^ b.toNat)
def zh0(l:List UInt8):Nat:=4294967295 - l.foldl vI 4294967295
def Zh(l:List UInt8):List UInt8:=l++le4 (zh0 l)
def ZH(l:List UInt8):Option (List UInt8):=
 if l.length<4 then none else if l.drop (l.length - 4)=le4 (zh0 (l.take (l.length - 4)))then some (l.take (l.length - 4))else none
def vU(l:List UInt8):Nat:=if l.length=4 then l.foldr (λb n=>b.toNat+256*n) 0 else 0
def zJ(d:List UInt8):List UInt8×Int:=if 4096<d.length then([],30)else(Zh ([52] ++le4 d.length++d),0)
def ZC(s:List UInt8):List UInt8×Nat:=
 if s.length<9 then([],0)
 else if s.head?≠some 52 then([],0)
 else if 4096<vU ((s.drop 1).take 4)then([],0)
 else if s.length<9+vU ((s.drop 1).take 4)then([],0)
 else match ZH (s.take (9+vU ((s.drop 1).take 4)))with
  |none=>([],0)
  |some b=>(b.drop 5,9+vU ((s.drop 1).take 4))
def zaZ:Nat->List UInt8->List (List UInt8)×Nat
 |0,_=>([],0)
 |n+1,s=>if(ZC s).2=0 then([],0)else((ZC s).1::(zaZ n (s.drop (ZC s).2)).1,(ZC s).2+(zaZ n (s.drop (ZC s).2)).2)
structure yv where
 log:List UInt8
 cap:Int
 isCut:Bool
 keep:Int
 crashed:Bool
def Zi(cap:Int):yv:={log:=[],cap:=cap,isCut:=false,keep:=0,crashed:=false}
def jb(s:yv)(d:List UInt8):yv×Int:=
 if s.crashed then(s,31)
 else if(zJ d).2≠0 then(s,30)
 else if s.cap<s.log.length+(zJ d).1.length then(s,30)
 else if s.isCut=false then({s with log:=s.log++(zJ d).1},0)
 else({s with log:=s.log++(zJ d).1.take (min s.keep (zJ d).1.length).toNat,isCut:=false,keep:=0,crashed:=true},31)
def zlu(s:yv)(keep:Int):yv×Int:=if s.crashed then(s,31)else if keep<0 then(s,2)else({s with isCut:=true,keep:=keep},0)
def yP(s:yv):yv×List (List UInt8):=({s with log:=s.log.take (zaZ s.log.length s.log).2,isCut:=false,keep:=0,crashed:=false},(zaZ s.log.length s.log).1)
abbrev jE:=Nat×Nat×List UInt8
def j9(v:jE):Bool:= !(decide (v.2.1=0)&& !v.2.2.isEmpty)&& decide (v.2.1<=v.1)&& decide (v.2.2.length<=4000)
def yl(v:jE)(b:Nat):jE×Int:=
 if j9 v=false∨b<1 then((0,0,[]),2)else if b<=v.1 then((0,0,[]),80)else((b,v.2),0)
def Vb(v:jE)(b:Nat)(x:List UInt8):jE×Int:=
 if j9 v=false∨b<1∨4000<x.length then((0,0,[]),2)else if b<v.1 then((0,0,[]),80)else((b,b,x),0)
structure xM where
 votes:List (Int×jE)
 known:List (Int×List UInt8)
 length:Nat
def qx:xM:={votes:=[],known:=[],length:=0}
def z8(i:Int):Bool:=decide (1<=i)&& decide (i<=10000)
def ja(p:xM)(i:Int):jE:=(zH i p.votes).getD (0,0,[])
def le8(n:Nat):List UInt8:=le4 n++le4 (n / 4294967296)
def xI(kind:UInt8)(i:Int)(more:List UInt8):List UInt8:=[kind] ++le4 (i.toNat % 4294967296)++more
def zA(p:xM)(i:Int)(b:Nat):xM×jE×List UInt8×Int:=
 if z8 i=false then(p,(0,0,[]),[],2)
 else if(yl (ja p i) b).2≠0 then(p,(0,0,[]),[],(yl (ja p i) b).2)
 else({p with votes:=put i (yl (ja p i) b).1 p.votes},(yl (ja p i) b).1,xI 112 i (le8 b),0)
def vJ(p:xM)(i:Int)(b:Nat)(x:List UInt8):xM×List UInt8×Int:=
 if z8 i=false then(p,[],2)
 else if(Vb (ja p i) b x).2≠0 then(p,[],(Vb (ja p i) b x).2)
 else({p with votes:=put i (Vb (ja p i) b x).1 p.votes},xI 118 i (le8 b++x),0)
def Yo(known:List (Int×List UInt8)):Nat->Nat->Nat
 |0,at_=>at_
 |n+1,at_=>if(zH ((at_:Int)+1) known).isSome/\at_<10000 then Yo known n (at_+1)else at_
def zV(p:xM)(i:Int)(x:List UInt8):xM×List UInt8×Int:=
 if z8 i=false∨4000<x.length then(p,[],2)
 else match zH i p.known with
  |some y=>if y≠x then(p,[],91)else(p,[],0)
  |none=>({p with known:=put i x p.known,length:=Yo (put i x p.known) 10000 p.length},xI 100 i x,0)
def ZV(s:List UInt8):Option (UInt8×Int×Nat×List UInt8):=
 if s.length<5 then none
 else if 10000<vU ((s.drop 1).take 4)∨z8 (vU ((s.drop 1).take 4))=false then none
 else if s.head?=some 100 then(if(s.drop 5).length<=4000 then some (100,vU ((s.drop 1).take 4),0,s.drop 5)else none)
 else if s.head?=some 112∨s.head?=some 118 then
  (if s.length<13 then none
   else if s.head?=some 112/\s.drop 13≠ [] then none
   else if 1<=vU ((s.drop 5).take 4)+4294967296*vU ((s.drop 9).take 4)/\(s.drop 13).length<=4000 then some (s.head?.getD 0,vU ((s.drop 1).take 4),vU ((s.drop 5).take 4)+4294967296*vU ((s.drop 9).take 4),s.drop 13)else none)
 else none
def ZW(kind:UInt8)(v:jE)(b:Nat)(x:List UInt8):jE:=if kind=118/\v.2.1<=b then(max v.1 b,b,x)else(max v.1 b,v.2)
def vl(p:xM)(s:List UInt8):xM:=
 match ZV s with
 |none=>p
 |some (k,i,b,x)=>if k=100 then(zV p i x).1 else if ZW k (ja p i) b x=ja p i then p else {p with votes:=put i (ZW k (ja p i) b x) p.votes}
def vV(s:List UInt8):zx×Nat:=
 if s.length<9 then(((0,0),[]),0)
 else if 1000<vU ((s.drop 5).take 4)∨s.length<9+vU ((s.drop 5).take 4)then(((0,0),[]),0)
 else if zz ((((s.head?.getD 0).toNat:Int),vU ((s.drop 1).take 4)),(s.drop 9).take (vU ((s.drop 5).take 4)))=false then(((0,0),[]),0)
 else(((((s.head?.getD 0).toNat:Int),vU ((s.drop 1).take 4)),(s.drop 9).take (vU ((s.drop 5).take 4))),9+vU ((s.drop 5).take 4))
def yL:Nat->List UInt8->Option (List zx)
 |0,s=>if s=[] then some [] else none
 |n+1,s=>if(vV s).2=0 then none else(yL n (s.drop (vV s).2)).map ((vV s).1::·)
def ya(s:List UInt8):List zx×Int:=
 match s with
 | []=>([],101)
 |b::r=>if 64<b.toNat then([],101)else match yL b.toNat r with|none=>([],101)|some l=>(l,0)
def jq(s:List UInt8):jz×Int:=
 if s.length<6∨4000<s.length then(⟨0,0,0,[]⟩,140)
 else if(ya (s.drop 6)).2≠0 then(⟨0,0,0,[]⟩,140)
 else if(ju ⟨(s.head?.getD 0).toNat,vU ((s.drop 1).take 4),((s.drop 5).head?.getD 0).toNat,(ya (s.drop 6)).1⟩)=(s,0)then(⟨(s.head?.getD 0).toNat,vU ((s.drop 1).take 4),((s.drop 5).head?.getD 0).toNat,(ya (s.drop 6)).1⟩,0)
 else(⟨0,0,0,[]⟩,140)
structure xn where
 waits:List (MId×zx)
 done:List (MId×Unit)
def Zj:xn:={waits:=[],done:=[] }
def zf3(p:xn)(m:zx):xn×Int:=
 if zz m=false then(p,100)
 else if(zH m.1 p.waits).isSome∨(zH m.1 p.done).isSome then(p,0)
 else if 1000<=p.waits.length then(p,120)
 else({p with waits:=put m.1 m p.waits},0)
def yM(p:xn)(m:zx):xn:=if(zH m.1 p.done).isSome then p else {waits:=del m.1 p.waits,done:=put m.1 () p.done}
def JQ(p:xn)(l:List zx):xn:=if l.all zz then l.foldl yM p else p
def ltM(a b:zx):Bool:=decide (a.1.1<b.1.1)||(decide (a.1.1=b.1.1)&& decide (a.1.2<=b.1.2))
def zj6(m:zx):List zx->List zx
 | []=>[m]
 |x::l=>if ltM m x then m::x::l else x::zj6 m l
def Zk(l:List zx):List zx:=l.foldr zj6 []
def ZX(p:xn)(most:Nat):List zx:=(Zk (p.waits.map (·.2))).take most
structure zq where
 id:Int
 version:Int
 bad:List Int
 store:yv
 pax:xM
 loc:zQ
 pool:xn
 acc:List zx
 offered:Nat
 applied:Nat
 wanted:Int
 down:Bool
def ZY(n:zq)(s:StD):zq:={n with pax:=qx,loc:=zjz n.version s,pool:=Zj,acc:=[],offered:=0,applied:=0,wanted:=0}
def yk(n:zq)(ofPart:Bool)(d:List UInt8):zq×Int:=
 ({n with store:=(jb n.store d).1,down:=n.down||decide ((jb n.store d).2=31)||(ofPart && decide ((jb n.store d).2≠0))},(jb n.store d).2)
def jR:Nat->zq->zq
 |0,n=>n
 |k+1,n=>match n.acc[n.offered]? with
  |none=>n
  |some m=>if(zf3 n.pool m).2=0 then jR k {n with pool:=(zf3 n.pool m).1,offered:=n.offered+1} else {n with pool:=(zf3 n.pool m).1}
def Yp(n:zq):Int:=if n.down then 170 else 0
def zG(n:zq)(d:List UInt8):zq×zx×Int:=
 if n.down then(n,((0,0),[]),170)
 else if zz ((n.id,n.acc.length+1),d)=false then(n,((0,0),[]),100)
 else if(yk n false ([109] ++(yj [((n.id,n.acc.length+1),d)]).1)).2≠0 then((yk n false ([109] ++(yj [((n.id,n.acc.length+1),d)]).1)).1,((0,0),[]),(yk n false ([109] ++(yj [((n.id,n.acc.length+1),d)]).1)).2)
 else(jR (n.acc.length+1) {(yk n false ([109] ++(yj [((n.id,n.acc.length+1),d)]).1)).1 with acc:=n.acc++ [((n.id,n.acc.length+1),d)] },((n.id,n.acc.length+1),d),0)
def zy(n:zq)(i:Int)(b:Nat):zq×jE×Int:=
 if n.down then(n,(0,0,[]),170)
 else if(zA n.pax i b).2.2.2≠0 then(n,(0,0,[]),(zA n.pax i b).2.2.2)
 else if(yk {n with pax:=(zA n.pax i b).1} true (zA n.pax i b).2.2.1).2≠0 then((yk {n with pax:=(zA n.pax i b).1} true (zA n.pax i b).2.2.1).1,(0,0,[]),(yk {n with pax:=(zA n.pax i b).1} true (zA n.pax i b).2.2.1).2)
 else((yk {n with pax:=(zA n.pax i b).1} true (zA n.pax i b).2.2.1).1,(zA n.pax i b).2.1,0)
def yH(n:zq)(i:Int)(b:Nat)(x:List UInt8):zq×Int:=
 if n.down then(n,170)
 else if(vJ n.pax i b x).2.2≠0 then(n,(vJ n.pax i b x).2.2)
 else yk {n with pax:=(vJ n.pax i b x).1} true (vJ n.pax i b x).2.1
def qi(n:zq)(e:jz):Int:=
 if e.kind=2 then e.ver else if e.kind=3 then(if 1<n.loc.fold.eras.length then((n.loc.fold.eras[n.loc.fold.eras.length - 2]?).getD (0,0,0)).2.1 else 0)else 0
def vW(n:zq)(e:jz):zq×List zx:=
 let R:=j8 n.loc e (n.bad.contains (qi n e))
 let p:=JQ (JQ n.pool R.2.1) R.1.held
 (jR (n.acc.length+1) {n with loc:=R.1,wanted:=if vo R.1.fold.eras=vo n.loc.fold.eras then n.wanted else 0,pool:=p},R.2.1)
def jB:Nat->zq->zq×List zx
 |0,n=>(n,[])
 |k+1,n=>match zH ((n.applied:Int)+1) n.pax.known with
  |none=>(n,[])
  |some x=>
   if(jq x).2≠0 then jB k {n with applied:=n.applied+1}
   else((jB k (vW {n with applied:=n.applied+1} (jq x).1).1).1,(vW {n with applied:=n.applied+1} (jq x).1).2++(jB k (vW {n with applied:=n.applied+1} (jq x).1).1).2)
def jd(n:zq)(i:Int)(x:List UInt8):zq×List zx×Int:=
 if n.down then(n,[],170)
 else
  let r:=zV n.pax i x
  if r.2.2≠0 then(n,[],r.2.2)
  else if r.2.1=[] then((jB 10001 {n with pax:=r.1}).1,(jB 10001 {n with pax:=r.1}).2,0)
  else
   let q:=yk {n with pax:=r.1} true r.2.1
   if q.2≠0 then(q.1,[],q.2)else((jB 10001 q.1).1,(jB 10001 q.1).2,0)
def JG(known:List (Int×List UInt8)):Nat->Nat->Nat
 |0,i=>i
 |k+1,i=>if(zH (i:Int) known).isSome then JG known k (i+1)else i
def yE(n:zq):Nat:=JG n.pax.known 10001 (n.applied+1)
def ZZ(e:jz):List UInt8×Bool:=((ju e).1,decide ((ju e).2=0))
def yn(era:ZJ):List zx->List zx->List UInt8×Bool->List UInt8×Bool
 |_,[],r=>r
 |p,m::l,r=>if(ZZ ⟨1,era.1,0,p++ [m]⟩).2 then yn era (p++ [m]) l (ZZ ⟨1,era.1,0,p++ [m]⟩)else r
def jN(n:zq):List UInt8×Bool:=
 if n.down then([],false)
 else if n.loc.blk then ZZ ⟨3,(vo n.loc.fold.eras).1,0,[]⟩
 else if n.wanted≠0/\j4 (vo n.loc.fold.eras).2.1 n.wanted=0 then ZZ ⟨2,(vo n.loc.fold.eras).1,n.wanted,[]⟩
 else yn (vo n.loc.fold.eras) [] (ZX n.pool (if(if known (vo n.loc.fold.eras).2.1 then(if(vo n.loc.fold.eras).2.1=1 then(1:Int)else 2)else 0)=1 then 1 else 8)) ([],false)
def JR(n:zq)(v:Int):zq×Int:=
 if n.down then(n,170)else if j4 (vo n.loc.fold.eras).2.1 v≠0 then(n,j4 (vo n.loc.fold.eras).2.1 v)else({n with wanted:=v},0)
def zk1(n:zq)(k:Int):zq×Int:=if n.down then(n,170)else({n with store:=(zlu n.store k).1},(zlu n.store k).2)
def Xw(n:zq):zq×Int:=if n.down then(n,170)else({n with down:=true},0)
def Zl(n:zq)(r:List UInt8):zq:=
 match r with
 | []=>n
 |k::d=>if k=109/\(ya d).2=0/\(ya d).1.length=1 then {n with acc:=n.acc++(ya d).1} else {n with pax:=vl n.pax r}
def xS(n:zq)(s:StD):zq:=
 let R:=yP n.store
 let m:=R.2.foldl Zl (ZY {n with store:=R.1} s)
 {(jR ((jB 10001 m).1.acc.length+1) (jB 10001 m).1)with down:=false}
theorem y7(n:Nat):vU (le4 n)=n % 4294967296:=by
 unfold vU;rw [if_pos (zY n)];unfold le4;simp only [List.foldr_cons,List.foldr_nil,UInt8.toNat_ofNat'];omega
theorem Zm(n:Nat):(le4 n).length=4:=rfl
theorem za0(l:List UInt8):(Zh l).length=l.length+4:=by simp [Zh,Zm]
theorem Xx(l:List UInt8):ZH (Zh l)=some l:=by
 unfold ZH;rw [if_neg (by rw [za0];omega)];have h1:(Zh l).length - 4=l.length:=by rw [za0];omega
 rw [h1];have h2:(Zh l).take l.length=l:=by unfold Zh;rw [List.take_left'];rfl
 have h3:(Zh l).drop l.length=le4 (zh0 l):=by unfold Zh;rw [List.drop_left'];rfl
 rw [h2,h3,if_pos rfl]
theorem Yq {d:List UInt8}(h:d.length<=4096):zJ d=(Zh ([52] ++le4 d.length++d),0):=by unfold zJ;rw [if_neg (by omega)]
theorem yw {d:List UInt8}(h:d.length<=4096):(zJ d).1.length=d.length+9:=by
 rw [Yq h,za0];simp [Zm];omega
theorem Xy {d:List UInt8}(h:d.length<=4096)(k:Nat)(rest:List UInt8)(hk:5<=k):(((zJ d).1++rest).take k).head?=some 52/\((((zJ d).1++rest).take k).drop 1).take 4=le4 d.length:=by
 rw [Yq h];obtain⟨m,rfl⟩:∃m,k=m+5:=⟨k - 5,by omega⟩;unfold Zh le4;simp
theorem zcf {d:List UInt8}(h:d.length<=4096)(rest:List UInt8):ZC ((zJ d).1++rest)=(d,9+d.length):=by
 have hl:=yw h;have hh:=Xy h ((zJ d).1++rest).length rest (by rw [N1];omega);rw [List.take_length] at hh;have hg:vU ((((zJ d).1++rest).drop 1).take 4)=d.length:=by rw [hh.2,y7];omega
 unfold ZC;rw [if_neg (by rw [N1];omega),if_neg (by rw [hh.1];simp),hg,if_neg (by omega),if_neg (by rw [N1];omega)];have ht:((zJ d).1++rest).take (9+d.length)=(zJ d).1:=by rw [List.take_left'];omega
 rw [ht,Yq h,Xx];simp [le4]
theorem zf4 {d:List UInt8}(h:d.length<=4096)(k:Nat)(hk:k<(zJ d).1.length):(ZC ((zJ d).1.take k)).2=0:=by
 have hl:=yw h;unfold ZC;have aa:((zJ d).1.take k).length=k:=by rw [N7];omega
 by_cases h9:k<9
 ·rw [if_pos (by rw [aa];exact h9)]
 have hh:=Xy h k [] (by omega)
 rw [List.append_nil] at hh;have hg:vU ((((zJ d).1.take k).drop 1).take 4)=d.length:=by rw [hh.2,y7];omega
 rw [if_neg (by rw [aa];exact h9),if_neg (by rw [hh.1];simp),hg,if_neg (by omega),if_pos (by rw [aa];omega)]
theorem Yr:(ZC []).2=0:=rfl
def recs(l:List (List UInt8)):List UInt8:=l.flatMap λd=>(zJ d).1
def ze7(l:List (List UInt8)):Prop:=∀d∈l,d.length<=4096
theorem zcg(l:List (List UInt8))(d:List UInt8):recs (l++ [d])=recs l++(zJ d).1:=by simp [recs]
theorem ze8 {l:List (List UInt8)}(h:ze7 l):9*l.length<=(recs l).length:=by
 induction l with
 |nil=>simp [recs]
 |cons d l ih=>
  have h1:=yw (h d (List.mem_cons_self ..));have h2:=ih (λx hx=>h x (U7 _ hx));have h3:recs (d::l)=(zJ d).1++recs l:=rfl;rw [h3,N1,List.length_cons];omega
theorem Xz {tail:List UInt8}(ht:(ZC tail).2=0):∀(l:List (List UInt8)) (n:Nat),ze7 l->l.length<n->zaZ n (recs l++tail)=(l,(recs l).length)
 | [],n+1,_,_=>by
   have h3:recs [] ++tail=tail:=rfl;rw [h3];unfold zaZ;rw [if_pos ht];rfl
 | [],0,_,h=>by simp at h
 |d::l,0,_,h=>by simp at h
 |d::l,n+1,hok,hn=>by
  have h1:=hok d (List.mem_cons_self ..);have h3:recs (d::l)++tail=(zJ d).1++(recs l++tail):=by simp [recs]
  have hf:=zcf h1 (recs l++tail);have hd:((zJ d).1++(recs l++tail)).drop (9+d.length)=recs l++tail:=by rw [List.drop_left'];have:=yw h1;omega
  rw [h3];unfold zaZ;rw [hf];simp only;rw [if_neg (by omega),hd,Xz ht l n (λx hx=>hok x (U7 _ hx)) (by simp at hn;omega)];have h4:recs (d::l)=(zJ d).1++recs l:=rfl;rw [h4,N1,yw h1];simp;omega
def zf5(s:yv)(l:List (List UInt8)):Prop:=ze7 l/\∃tail,s.log=recs l++tail/\(ZC tail).2=0/\(s.crashed=false->tail=[])
theorem za1(cap:Int):zf5 (Zi cap) []:=⟨(λd hd=>absurd hd (by simp)),[],rfl,Yr,λ_=>rfl⟩
theorem zf6 {d:List UInt8}(h:(zJ d).2=0):d.length<=4096:=by
 unfold zJ at h
 split at h
 ·simp at h
 omega
theorem Q5 {s:yv}{l:List (List UInt8)}(h:zf5 s l)(d:List UInt8):
 ((jb s d).2=0/\s.crashed=false/\(jb s d).1.crashed=false/\zf5 (jb s d).1 (l++ [d]))∨
 ((jb s d).2=31/\(jb s d).1.crashed=true/\(zf5 (jb s d).1 l∨zf5 (jb s d).1 (l++ [d])))∨
 ((jb s d).2=30/\(jb s d).1=s):=by
 obtain⟨ad,ac,hl,ht,hc⟩:=h;unfold jb
 split
 ·rename_i hcr
  exact .inr (.inl ⟨rfl,hcr,.inl ⟨ad,ac,hl,ht,hc⟩⟩)
 rename_i hcr
 have aa:s.crashed=false:=by simpa using hcr
 have ae:=hc aa;subst ae;rw [List.append_nil] at hl
 split
 ·exact .inr (.inr ⟨rfl,rfl⟩)
 rename_i hr
 have hd:=zf6 (Decidable.not_not.1 hr)
 have ab:ze7 (l++ [d]):=by
  intro x hx
  rcases List.mem_append.1 hx with h|h
  ·exact ad x h
  simp at h;rw [h];exact hd
 split
 ·exact .inr (.inr ⟨rfl,rfl⟩)
 split
 ·refine .inl ⟨rfl,aa,aa,ab,[],?_,Yr,λ_=>rfl⟩
  show s.log++_=_
  rw [hl,zcg,List.append_nil]
 refine .inr (.inl ⟨rfl,rfl,?_⟩)
 rcases Nat.lt_or_ge (min s.keep ((zJ d).1.length:Int)).toNat (zJ d).1.length with h|h
 ·refine .inl ⟨ad,(zJ d).1.take (min s.keep ((zJ d).1.length:Int)).toNat,?_,zf4 hd _ h,λh=>by cases h⟩
  show s.log++_=_
  rw [hl]
 refine .inr ⟨ab,[],?_,Yr,λh=>by cases h⟩
 show s.log++_=_
 rw [hl,zcg,List.take_of_length_le h,List.append_nil]
theorem zj7 {s:yv}{l:List (List UInt8)}(h:zf5 s l)(k:Int):zf5 (zlu s k).1 l/\(zlu s k).1.crashed=s.crashed:=by
 unfold zlu
 split
 ·exact⟨h,rfl⟩
 split
 ·exact⟨h,rfl⟩
 exact⟨h,rfl⟩
theorem zch {s:yv}{l:List (List UInt8)}(h:zf5 s l):(yP s).2=l/\zf5 (yP s).1 l/\(yP s).1.crashed=false:=by
 obtain⟨ab,ac,hl,ht,hc⟩:=h;have aa:=ze8 ab
 have hr:zaZ s.log.length s.log=(l,(recs l).length):=by
  cases hll:l with
  |nil=>
   cases hs:s.log with
   |nil=>rfl
   |cons b r=>
    have h1:=Xz ht l (b::r).length ab (by rw [hll];simp);rw [← hl,hs,hll] at h1;exact h1
  |cons x y=>
   rw [← hll];have h1:=Xz ht l s.log.length ab (by rw [hl,N1];rw [hll] at aa⊢;simp at aa⊢;omega);rw [← hl] at h1;exact h1
 unfold yP;rw [hr];refine⟨rfl,⟨ab,[],?_,Yr,λ_=>rfl⟩,rfl⟩
 show s.log.take (recs l).length=recs l++ []
 rw [hl,List.take_left',List.append_nil];rfl
theorem yF {K V:Type} [DecidableEq K](k k':K)(v:V):∀l:List (K×V),zH k' (put k v l)=if k'=k then some v else zH k' l
 | []=>by unfold put zH;split<;>simp_all [zH]
 |(q,u)::l=>by
  have ih:=yF k k' v l;unfold put
  by_cases h:k=q
  ·subst h
   rw [if_pos rfl]
   by_cases h2:k'=k
   ·subst h2;simp [zH]
   simp [zH,h2]
  rw [if_neg h]
  by_cases h2:k'=q
  ·subst h2
   rw [if_neg (λe=>h e.symm)];simp [zH]
  rw [zH,if_neg h2,ih]
  conv=>rhs;rw [zH,if_neg h2]
theorem ze9 {K V:Type} [DecidableEq K] {k:K}{v:V} :∀ {l:List (K×V)},zH k l=some v->put k v l=l
 | [],h=>by cases h
 |(q,u)::l,h=>by
  unfold zH at h;unfold put
  by_cases hq:k=q
  ·subst hq;rw [if_pos rfl] at h⊢;cases h;rfl
  rw [if_neg hq] at h⊢;rw [ze9 h]
theorem qI(n:Nat):(le8 n).length=8:=rfl
theorem qS {i:Int}(h:z8 i=true):1<=i/\i<=10000:=by simpa [z8] using h
theorem XA(kind:UInt8){i:Int}(h:z8 i=true)(more:List UInt8):(xI kind i more).head?=some kind/\vU (((xI kind i more).drop 1).take 4)=i.toNat/\(xI kind i more).drop 5=more/\(xI kind i more).length=5+more.length:=by
 have hp:=qS h;refine⟨rfl,?_,rfl,by unfold xI;simp [Zm];omega⟩;have:((xI kind i more).drop 1).take 4=le4 (i.toNat % 4294967296):=rfl;rw [this,y7];omega
theorem Q6(kind:UInt8){i:Int}(b:Nat)(hb:b<18446744073709551616)(x:List UInt8):vU (((xI kind i (le8 b++x)).drop 5).take 4)+4294967296*vU (((xI kind i (le8 b++x)).drop 9).take 4)=b/\(xI kind i (le8 b++x)).drop 13=x:=by
 have h1:((xI kind i (le8 b++x)).drop 5).take 4=le4 b:=rfl;have h2:((xI kind i (le8 b++x)).drop 9).take 4=le4 (b / 4294967296):=rfl;rw [h1,h2,y7,y7];exact⟨by omega,rfl⟩
theorem zci {i:Int}(h:z8 i=true){x:List UInt8}(hx:x.length<=4000):ZV (xI 100 i x)=some (100,i,0,x):=by
 have hp:=qS h;obtain⟨h1,h2,h3,h4⟩:=XA 100 h x;have hi:((i.toNat:Nat):Int)=i:=Int.toNat_of_nonneg (by omega);unfold ZV;rw [if_neg (by omega),h2,hi,if_neg (by rw [h];simp;omega),if_pos h1,h3,if_pos hx]
theorem za2 {i:Int}(h:z8 i=true){b:Nat}(hb:b<18446744073709551616)(h0:1<=b):ZV (xI 112 i (le8 b))=some (112,i,b,[]):=by
 have hp:=qS h;obtain⟨h1,h2,h3,h4⟩:=XA 112 h (le8 b);obtain⟨h5,h6⟩:=Q6 112 (i:=i) b hb [];rw [List.append_nil] at h5 h6;have hi:((i.toNat:Nat):Int)=i:=Int.toNat_of_nonneg (by omega);have h8:=qI b;unfold ZV;rw [if_neg (by omega),h2,hi,if_neg (by rw [h];simp;omega),h1,if_neg (by simp),if_pos (.inl rfl),if_neg (by omega),h6,if_neg (by simp),h5,if_pos ⟨h0,by simp⟩];rfl
theorem zf7 {i:Int}(h:z8 i=true){b:Nat}(hb:b<18446744073709551616)(h0:1<=b){x:List UInt8}(hx:x.length<=4000):ZV (xI 118 i (le8 b++x))=some (118,i,b,x):=by
 have hp:=qS h;obtain⟨h1,h2,h3,h4⟩:=XA 118 h (le8 b++x);obtain⟨h5,h6⟩:=Q6 118 (i:=i) b hb x;have hi:((i.toNat:Nat):Int)=i:=Int.toNat_of_nonneg (by omega);have h8:=qI b;rw [N1] at h4;unfold ZV;rw [if_neg (by omega),h2,hi,if_neg (by rw [h];simp;omega),h1,if_neg (by simp),if_pos (.inr rfl),if_neg (by omega),h6,if_neg (by simp),h5,if_pos ⟨h0,hx⟩];rfl
theorem za3 {p:xM}{i:Int}{b:Nat}(hb:b<18446744073709551616)(h:(zA p i b).2.2.2=0):vl p (zA p i b).2.2.1=(zA p i b).1/\(zA p i b).2.2.1=xI 112 i (le8 b)/\z8 i=true/\1<=b/\(ja p i).1<b/\(zA p i b).1={p with votes:=put i (b,(ja p i).2) p.votes} :=by
 unfold zA at h⊢
 split at h
 ·simp at h
 rename_i hi
 rw [if_neg hi];have aa:z8 i=true:=by simpa using hi
 split at h
 ·rename_i h1;exact absurd h h1
 rename_i h1
 rw [if_neg h1]
 have hv:(yl (ja p i) b)=((b,(ja p i).2),0)/\1<=b/\(ja p i).1<b:=by
  unfold yl at h1⊢
  split at h1
  ·simp at h1
  rename_i h2
  rw [if_neg h2]
  split at h1
  ·simp at h1
  rename_i h3
  rw [if_neg h3];exact⟨rfl,by omega,by omega⟩
 simp only;rw [hv.1];refine⟨?_,by first|exact rfl|exact trivial,aa,hv.2.1,hv.2.2,by first|exact rfl|exact trivial⟩;unfold vl;rw [za2 aa hb hv.2.1];simp only;rw [if_neg (by decide)]
 have hr:ZW 112 (ja p i) b []=(b,(ja p i).2):=by
  unfold ZW;rw [if_neg (by simp)];rw [Nat.max_eq_right (by omega)]
 rw [hr,if_neg (λe=>by have:=congrArg Prod.fst e;simp at this;omega)]
theorem zf8 {p:xM}{i:Int}{b:Nat}{x:List UInt8}(hb:b<18446744073709551616)(h:(vJ p i b x).2.2=0):vl p (vJ p i b x).2.1=(vJ p i b x).1/\z8 i=true/\1<=b/\(ja p i).1<=b/\x.length<=4000/\(vJ p i b x).1={p with votes:=put i (b,b,x) p.votes} /\(vJ p i b x).2.1=xI 118 i (le8 b++x):=by
 unfold vJ at h⊢
 split at h
 ·simp at h
 rename_i hi
 rw [if_neg hi];have ab:z8 i=true:=by simpa using hi
 split at h
 ·rename_i h1;exact absurd h h1
 rename_i h1
 rw [if_neg h1]
 have hv:(Vb (ja p i) b x)=((b,b,x),0)/\1<=b/\(ja p i).1<=b/\x.length<=4000/\(ja p i).2.1<=(ja p i).1:=by
  unfold Vb at h1⊢
  split at h1
  ·simp at h1
  rename_i h2
  rw [if_neg h2]
  have aa:j9 (ja p i)=true/\1<=b/\x.length<=4000:=by
   refine⟨?_,by omega,by omega⟩
   cases hvo:j9 (ja p i)
   ·exact absurd (.inl hvo) h2
   rfl
  split at h1
  ·simp at h1
  rename_i h3
  rw [if_neg h3]
  have h4:(ja p i).2.1<=(ja p i).1:=by
   have:=aa.1;unfold j9 at this;simp only [Bool.and_eq_true,decide_eq_true_eq] at this;exact this.1.2
  exact⟨rfl,aa.2.1,by omega,aa.2.2,h4⟩
 simp only;rw [hv.1];refine⟨?_,ab,hv.2.1,hv.2.2.1,hv.2.2.2.1,by first|exact rfl|exact trivial,by first|exact rfl|exact trivial⟩;unfold vl;rw [zf7 ab hb hv.2.1 hv.2.2.2.1];simp only;rw [if_neg (by decide)]
 have hr:ZW 118 (ja p i) b x=(b,b,x):=by
  unfold ZW;rw [if_pos ⟨rfl,by omega⟩,Nat.max_eq_right (by omega)]
 rw [hr]
 split
 ·rename_i heq
  have hl:zH i p.votes=some (b,b,x):=by
   unfold ja at heq
   cases hlk:zH i p.votes with
   |none=>rw [hlk] at heq;simp at heq;omega
   |some u=>rw [hlk] at heq;simp at heq;rw [heq]
  show p={p with votes:=put i (b,b,x) p.votes}
  rw [ze9 hl]
 rfl
theorem zdZ {p:xM}{i:Int}{x:List UInt8}(h:(zV p i x).2.2=0)(hr:(zV p i x).2.1≠ []):vl p (zV p i x).2.1=(zV p i x).1/\zH i p.known=none/\z8 i=true/\x.length<=4000/\(zV p i x).1.known=put i x p.known/\(zV p i x).1.votes=p.votes/\(zV p i x).2.1=xI 100 i x:=by
 have hq:(zV p i x).2.1=xI 100 i x/\z8 i=true/\x.length<=4000/\zH i p.known=none/\(zV p i x).1={p with known:=put i x p.known,length:=Yo (put i x p.known) 10000 p.length} :=by
  unfold zV at h hr⊢
  split at h
  ·simp at h
  rename_i h1
  rw [if_neg h1] at hr⊢
  have aa:z8 i=true/\x.length<=4000:=by
   refine⟨?_,by omega⟩
   cases hi:z8 i
   ·exact absurd (.inl hi) h1
   rfl
  cases hl:zH i p.known with
  |none=>exact⟨rfl,aa.1,aa.2,rfl,rfl⟩
  |some y=>
   rw [hl] at hr;simp only at hr
   split at hr<;>simp at hr
 obtain⟨h1,h2,h3,h4,h5⟩:=hq;refine⟨?_,h4,h2,h3,by rw [h5],by rw [h5],h1⟩;rw [h1];unfold vl;rw [zci h2 h3];simp
theorem zf9 {p:xM}{i:Int}{x:List UInt8}(h:(zV p i x).2.2≠0∨(zV p i x).2.1=[]):(zV p i x).1=p:=by
 unfold zV at h⊢
 by_cases h1:z8 i=false∨4000<x.length
 ·rw [if_pos h1]
 rw [if_neg h1] at h⊢
 cases hl:zH i p.known with
 |none=>rw [hl] at h;simp [xI] at h
 |some y=>simp only;split<;>rfl
end
section
open Go Go.RowKit
structure VY(f:yB)(k:Nat):Prop where
 ok:v8 f.book
 few:Zf f.book<=64*k
 eras:f.eras.length<=k+1
 low:0<=f.count
 high:f.count<=k
theorem zh1(v:Int):VY (ZN v) 0:=⟨zfP,by simp [ZN,Zf,qf],by simp [ZN],by simp [ZN],by simp [ZN]⟩
theorem VY.mono {f:yB}{k n:Nat}(h:VY f k)(hk:k<=n):VY f n:=⟨h.ok,by have:=h.few;omega,by have:=h.eras;omega,h.low,by have:=h.high;omega⟩
theorem VY.begin {f:yB}{k:Nat}(h:VY f k)(v:Int)(sw:Bool)(he:f.eras.length<=k):VY (xy f v sw) k:=
 ⟨h.ok,h.few,by simp [xy];exact he,h.low,h.high⟩
theorem zd0 {f:yB}{k:Nat}(h:VY f k)(e:jz):VY (jX f e).1 (k+1):=by
 have h1:VY {f with count:=f.count+1} (k+1):=⟨h.ok,by have:=h.few;show Zf f.book<=_;omega,by have:=h.eras;show f.eras.length<=_;omega,by have:=h.low;show 0<=f.count+1;omega,by have:=h.high;show f.count+1<=_;omega⟩;have h2:({f with count:=f.count+1} :yB).eras.length<=k+1:=h.eras;unfold jX
 split
 ·exact h.mono (by omega)
 rename_i hr
 have aa:JB e=true:=by simpa using hr
 split
 ·exact h1
 split
 ·have hd:=qP h.ok e.msgs
  have hm:=Yl aa;exact⟨hd.1,by have:=hd.2.1;have:=h.few;show Zf (zU f.book e.msgs).1<=_;omega,h1.eras,h1.low,h1.high⟩
 split
 ·split
  ·exact h1
  exact h1.begin _ _ h2
 split
 ·exact h1
 exact h1.begin _ _ h2
end
open Go
def xo:List Nat->List zx->Prop
 |_,[]=>True
 |tk,x::l=>(0<=x.1.1/\x.1.1<=15/\x.1.2=(tk[x.1.1.toNat]?.getD 0)+1/\x.1.2<=4294967294)/\xo (tk.set x.1.1.toNat x.1.2) l
theorem qy {m:zx}(h:zz m=true):0<=m.1.1/\m.1.1<=15/\m.2.length<=1000/\1<=m.1.2/\m.1.2<=4294967294:=by
 simp [zz] at h
 omega
theorem xo.append:∀ {tk:List Nat} {a b:List zx},xo tk a->xo (vR tk a) b->xo tk (a++b)
 |_,[],_,_,h2=>h2
 |_,_::a,_,h,h2=>⟨h.1,xo.append (a:=a) h.2 h2⟩
theorem zcj(tk:List Nat)(a b:List zx):vR tk (a++b)=vR (vR tk a) b:=by simp [vR,List.foldl_append]
theorem XB:∀(n:Nat)(ws:List (MId×zx)) (x:zx) (tk:List Nat),tk.length=16->zdy ws->zz x=true->x.1.2=(tk[x.1.1.toNat]?.getD 0)+1->xo tk (zT n ws x).2
 |0,ws,x,tk,ht,hw,hx,h=>by
  have:=qy hx;exact⟨⟨this.1,this.2.1,h,this.2.2.2.2⟩,trivial⟩
 |n+1,ws,x,tk,ht,hw,hx,h=>by
  have hp:=qy hx;unfold zT
  cases hl:zH (x.1.1,(x.1.2+1)% 4294967296) (del x.1 ws)with
  |none=>exact⟨⟨hp.1,hp.2.1,h,hp.2.2.2.2⟩,trivial⟩
  |some y=>
   have hy:=(hw.del x.1) _ (xQ hl);have hy1:y.1=(x.1.1,(x.1.2+1)% 4294967296):=hy.1;refine⟨⟨hp.1,hp.2.1,h,hp.2.2.2.2⟩,?_⟩;refine XB n (del x.1 ws) y _ (by simpa using ht) (hw.del _) hy.2 ?_;rw [hy1];simp only;rw [List.getElem?_set_self (by omega)];simp only [Option.getD_some];omega
theorem zck {b:vF}(hok:v8 b)(m:zx):xo b.tk (xF b m).2.1/\(xF b m).1.tk=vR b.tk (xF b m).2.1:=by
 unfold xF
 split
 ·exact⟨trivial,rfl⟩
 rename_i hr
 have ab:zz m=true:=by simpa using hr
 have hp:=qy ab
 split
 ·split<;>exact⟨trivial,rfl⟩
 rename_i hn
 have aa:m.1.2=Jv b m.1.1:=by simpa using hn
 refine⟨XB _ _ _ _ hok.sixteen hok.keys ab ?_,rfl⟩;unfold Jv at aa;rw [if_pos (by simp [vG];omega)] at aa
 have hm:b.tk[m.1.1.toNat]?.getD 0<=4294967294:=by
  cases h:b.tk[m.1.1.toNat]? with
  |none=>simp
  |some n=>exact hok.most n (List.mem_of_getElem? h)
 omega
theorem Z0 {b:vF}(hok:v8 b):∀(l:List zx),xo b.tk (zU b l).2/\(zU b l).1.tk=vR b.tk (zU b l).2
 | []=>⟨trivial,rfl⟩
 |m::l=>by
  have h1:=zck hok m;have h2:=Z0 (zhJ hok m) l;simp only [zU];refine⟨h1.1.append (by rw [← h1.2];exact h2.1),?_⟩;rw [h2.2,h1.2,zcj]
theorem Ys {f:yB}(hok:v8 f.book)(e:jz):xo f.book.tk (jX f e).2.1/\(jX f e).1.book.tk=vR f.book.tk (jX f e).2.1/\(jX f e).1.book.log=f.book.log++(jX f e).2.1/\(e.kind≠1->(jX f e).2.1=[]):=by
 unfold jX
 split
 ·exact⟨trivial,rfl,by simp,λ_=>rfl⟩
 split
 ·exact⟨trivial,rfl,by simp,λ_=>rfl⟩
 split
 ·rename_i hk
  have h1:=Z0 hok e.msgs;exact⟨h1.1,h1.2,(qP hok e.msgs).2.2,λh=>absurd hk h⟩
 split
 all_goals
  split
  ·exact⟨trivial,rfl,by simp,λ_=>rfl⟩
  exact⟨trivial,rfl,by simp [xy],λ_=>rfl⟩
theorem xo.at {l:List zx} :∀ {tk:List Nat},tk.length=16->xo tk l->∀(j:Nat)(x:zx),l[j]?=some x->
 0<=x.1.1/\x.1.1<=15/\x.1.2=((vR tk (l.take j))[x.1.1.toNat]?.getD 0)+1/\x.1.2<=4294967294/\vR tk (l.take (j+1))=(vR tk (l.take j)).set x.1.1.toNat x.1.2:=by
 induction l with
 |nil=>intro tk _ _ j x hx;simp at hx
 |cons y l ih=>
  intro tk ht h j x hx
  cases j with
  |zero=>
   simp at hx;subst hx
   exact⟨h.1.1,h.1.2.1,h.1.2.2.1,h.1.2.2.2,by simp [vR]⟩
  |succ j=>
   have h1:=ih (tk:=tk.set y.1.1.toNat y.1.2) (by simpa using ht) h.2 j x (by simpa using hx)
   simpa [vR] using h1
theorem xo.len {tk:List Nat}(l:List zx)(h:tk.length=16):(vR tk l).length=16:=by rw [vT];exact h
theorem Vc {i:Int}(h0:0<=i)(h:i<=255):((UInt8.ofNat (i % 256).toNat).toNat:Int)=i:=by
 rw [UInt8.toNat_ofNat'];omega
theorem xT(m:zx):(jk m).length=9+m.2.length:=by
 unfold jk;simp [Zm];omega
theorem zga {m:zx}(h:zz m=true)(rest:List UInt8):vV (jk m++rest)=(m,9+m.2.length):=by
 obtain⟨⟨i,c⟩,d⟩:=m;have hp:=qy h;simp only at hp;have hl:=xT ((i,c),d);simp only at hl;have h1:(jk ((i,c),d)++rest).head?.getD 0=UInt8.ofNat (i % 256).toNat:=rfl;have h2:((jk ((i,c),d)++rest).drop 1).take 4=le4 c:=rfl;have h3:((jk ((i,c),d)++rest).drop 5).take 4=le4 d.length:=rfl;have h4:(jk ((i,c),d)++rest).drop 9=d++rest:=rfl;have hb:=Vc hp.1 (by omega);have hc:c % 4294967296=c:=by omega
 have hd:d.length % 4294967296=d.length:=by omega
 have aa:(d++rest).take d.length=d:=by rw [List.take_left'];rfl
 unfold vV;rw [h1,h2,h3,h4,y7,y7,hc,hd,hb,aa,if_neg (by rw [N1];omega),if_neg (by rw [N1];omega),if_neg (by rw [h];simp)]
theorem VG:∀(l:List zx),l.all zz=true->yL l.length (l.flatMap jk)=some l
 | [],_=>rfl
 |m::l,h=>by
  simp only [List.all_cons,Bool.and_eq_true] at h;have hf:=zga h.1 (l.flatMap jk);have hl:=xT m;have hd:(jk m++l.flatMap jk).drop (9+m.2.length)=l.flatMap jk:=by rw [List.drop_left'];omega
  show yL (l.length+1) (jk m++l.flatMap jk)=_
  unfold yL;rw [hf];simp only;rw [if_neg (by omega),hd,VG l h.2];rfl
theorem zd1 {l:List zx}(h:(yj l).2=0):l.length<=64/\l.all zz=true/\yj l=([UInt8.ofNat (l.length % 256)] ++l.flatMap jk,0):=by
 unfold yj at h⊢
 split at h
 ·simp at h
 rename_i h1
 rw [if_neg h1]
 split at h
 ·rename_i h2
  rw [if_pos h2];exact⟨by omega,h2,rfl⟩
 simp at h
theorem XC {l:List zx}(h:(yj l).2=0):ya (yj l).1=(l,0):=by
 obtain⟨h1,h2,h3⟩:=zd1 h;rw [h3];unfold ya;have hb:(UInt8.ofNat (l.length % 256)).toNat=l.length:=by rw [UInt8.toNat_ofNat'];omega
 simp only [List.cons_append,List.nil_append];rw [hb,if_neg (by omega),VG l h2]
theorem za4 {m:zx}(h:zz m=true):yj [m]=([1] ++jk m,0):=by
 unfold yj;rw [if_neg (by simp),if_pos (by simp [h])];simp
theorem XD {e:jz}(h:(ju e).2=0):qg e=true/\(yj e.msgs).2=0/\(ju e).1=[UInt8.ofNat (e.kind % 256).toNat] ++le4 e.epoch++ [UInt8.ofNat (e.ver % 256).toNat] ++(yj e.msgs).1/\(ju e).1.length<=4000:=by
 unfold ju at h⊢
 split at h
 ·simp at h
 rename_i h1
 rw [if_neg h1]
 split at h
 ·simp at h
 rename_i h2
 rw [if_neg h2]
 split at h
 ·simp at h
 rename_i h3
 rw [if_neg h3];exact⟨by simpa using h1,by simpa using h2,rfl,Nat.le_of_not_lt h3⟩
theorem zcl {e:jz}(h:qg e=true):(1<=e.kind/\e.kind<=3)/\0<=e.ver/\e.ver<=255:=by
 unfold qg at h
 split at h
 ·simp at h;omega
 split at h
 ·simp at h;omega
 split at h
 ·simp at h;omega
 cases h
theorem za5 {e:jz}(h:(ju e).2=0)(hep:e.epoch<4294967296):jq (ju e).1=(e,0):=by
 obtain⟨h1,h2,h3,h4⟩:=XD h;obtain⟨hk,hv⟩:=zcl h1;obtain⟨q1,q2,q3⟩:=zd1 h2;have hu:=XC h2;obtain⟨k,ep,v,ms⟩:=e;simp only at hk hv hep h2 q1 q2 q3 hu;have a1:(ju ⟨k,ep,v,ms⟩).1.head?.getD 0=UInt8.ofNat (k % 256).toNat:=by rw [h3];rfl
 have a2:((ju ⟨k,ep,v,ms⟩).1.drop 1).take 4=le4 ep:=by rw [h3];rfl
 have a3:((ju ⟨k,ep,v,ms⟩).1.drop 5).head?.getD 0=UInt8.ofNat (v % 256).toNat:=by rw [h3];rfl
 have a4:(ju ⟨k,ep,v,ms⟩).1.drop 6=(yj ms).1:=by rw [h3];rfl
 have a5:6<=(ju ⟨k,ep,v,ms⟩).1.length:=by rw [h3];simp [Zm];omega
 have b1:=Vc (i:=k) (by omega) (by omega);have b2:=Vc (i:=v) (by omega) (by omega);have ab:ep % 4294967296=ep:=by omega
 unfold jq;rw [if_neg (by omega),a4,hu,if_neg (by simp),a1,a2,a3,y7,b1,b2,ab];have aa:ju {kind:=k,epoch:=ep,ver:=v,msgs:=(ms,(0:Int)).1} =((ju {kind:=k,epoch:=ep,ver:=v,msgs:=ms}).1,0):=Prod.ext rfl h;rw [if_pos aa]
theorem zh2 {f:yB}{e:jz}(h:(jX f e).2.2.2≠0):jX f e=(f,[],false,140):=by
 unfold jX at h⊢
 split
 ·rfl
 rename_i h1
 rw [if_neg h1] at h
 exfalso
 revert h
 repeat' split
 all_goals simp
theorem XE(L:zQ)(e:jz)(fails:Bool):(j8 L e fails).1.fold=(jX L.fold e).1:=by
 unfold j8
 split
 ·rfl
 unfold yD zjy yg qQ
 repeat' split
 all_goals rfl
theorem qj(L:zQ)(R:yB×List zx×Bool×Int)(fails:Bool):(zjy L R fails).held=L.held/\(zjy L R fails).log=L.log:=by
 unfold zjy yg
 split<;>exact⟨rfl,rfl⟩
theorem zcm(L:zQ):(yD L).1.log++(yD L).1.held=L.log++L.held:=by
 unfold yD
 split<;>simp
theorem zcn(L:zQ):(yD L).2.length<=L.held.length:=by
 unfold yD
 split<;>simp
structure xf(L:zQ)(k:Nat):Prop where
 fold:VY L.fold k
 all:L.log++L.held=L.fold.book.log
theorem xf.mono {L:zQ}{k n:Nat}(h:xf L k)(hk:k<=n):xf L n:=⟨h.fold.mono hk,h.all⟩
theorem zml(v:Int)(s:StD):xf (zjz v s) 0:=⟨zh1 v,rfl⟩
theorem xf.len {L:zQ}{k:Nat}(h:xf L k):L.log.length+L.held.length<=64*k:=by
 have h1:=congrArg List.length h.all;rw [N1] at h1;have h2:=h.fold.few;unfold Zf at h2;omega
theorem za6 {L:zQ}{k:Nat}(h:xf L k)(e:jz)(fails:Bool):xf (j8 L e fails).1 (k+1):=by
 refine⟨by rw [XE];exact zd0 h.fold e,?_⟩;rw [XE,(Ys h.fold.ok e).2.2.1];unfold j8
 split
 ·rename_i hr
  have:=zh2 hr;rw [this];simp only [List.append_nil];exact h.all
 rw [zcm]
 unfold qQ;simp only [(qj L _ fails).1,(qj L _ fails).2];rw [← List.append_assoc,h.all]
theorem zco {f:yB}{k:Nat}(h:VY f k)(e:jz):(jX f e).2.1.length<=64*(k+1):=by
 have h1:=(zd0 h e).few;have h2:=(Ys h.ok e).2.2.1;unfold Zf at h1;rw [h2,N1] at h1;omega
