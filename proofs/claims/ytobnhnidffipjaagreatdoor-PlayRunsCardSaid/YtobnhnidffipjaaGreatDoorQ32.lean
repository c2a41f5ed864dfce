/- PARTS OF THE PROOF. -/
import Derived.Test.YtobnhnidffipjaaGreatDoorQ04
import Derived.Test.YtobnhnidffipjaaGreatDoorQ31
set_option maxRecDepth 8000
set_option maxHeartbeats 4000000
open Go.Proofs.Tryz
namespace Go.Proofs.YtobnhnidffipjaaGreatDoor
section
open Go Go.RowKit Go.Shelf Go.Extern.Stop Go.Stop Go.Extern
attribute [local go_sem] Oper.semAt_some zw zn
theorem zae(w:World):(binOp .eql 73 (.slice none 0 0) (.slice none 0 0)).run prog w=.ok (.bool true) w:=by kernel_rfl
theorem zbB(a:Addr)(n c:Nat)(w:World):(binOp .eql 73 (.slice (some a) n c) (.slice none 0 0)).run prog w=.ok (.bool false) w:=by kernel_rfl
theorem zfB(v:Value)(l:List (Nat×Int×List UInt8))(w:World)(hv:Src w v 3 l.length (l.flatMap zT))(hb:l.length<=1073741824):Calls prog 42 #[v] w λe w'=>
 ∃v',e=.returned v'/\Row w' 106 3 v' l.length (l.flatMap zT)/\Below w.heap.size w w':=by
 have hyes:=zae w;have hno:=λa n c=>zbB a n c w
 have hv0:=hv
 rcases hv.2 with⟨rfl,h0⟩|⟨b,off,cap,rfl,hc,hr⟩
 ·obtain rfl:l=[]:=N9 h0
  go_enter func42,ntmps42
  go_wp2;go_ret
  exact⟨_,rfl,zX _ _ _,N2 _ _⟩
 ·clear hr hv
  replace hv0:=G hv0;replace hb:=G hb
  go_enter func42,ntmps42
  go_wp2_with (at_builtin
               obtain⟨v',w',hrun,hrow,hgr,hown⟩:=zI zjS (zhl w 106 3) (Src.below (Hid.out hv0) ((N2 _ _).alloc (N0 _) _)) (qK l) (by have:=hb.out;omega) 73
               refine zu rfl _ _ _ rfl rfl rfl hrun ?_)
  go_ret
  exact⟨_,rfl,by simpa using hrow,((N2 _ _).alloc (N0 _) _).grown hgr (by simp) (λk hk=>by simp [Value.ownBlock] at hk;omega)⟩
theorem zbC(B last:Nat)(notes:List (Nat×Int×List UInt8))(t:List Nat)(ow:Own)(w:World)(h:jk B last notes t ow w)(hn:notes.length<=1000):Calls prog 28 #[.pointer (some ⟨B,0,none⟩)] w λe w'=>
 ∃v',e=.returned v'/\Row w' 106 3 v' notes.length (notes.flatMap zT)/\Below w.heap.size w w':=by
 obtain⟨lv,hB,hR,o1,o2⟩:=h;have e0:=hB.cell;have hc:=zfB lv notes w hR.src (by omega);replace hc:=G hc;clear hR hB o2
 go_enter func28,ntmps28
 go_wp2_with fail
 refine hc.out.mono ?_;rintro e w2⟨v',rfl,h1,h2⟩;go_wp2;go_ret
 exact⟨_,rfl,h1,h2⟩
theorem xV(l:List (Nat×Int×List UInt8))(k:Nat)(x:(Nat×Int×List UInt8))(hx:l[k]?=some x)(j:Nat)(hj:j<3):(l.flatMap zT)[k*3+j]?=(zT x)[j]?:=by
 induction l generalizing k with
 |nil=>simp at hx
 |cons y l ih=>
  rw [List.flatMap_cons]
  cases k with
  |zero=>simp at hx;subst hx;rw [U8 (by simp [zT];omega)];simp
  |succ k=>
   rw [U6 (by simp [zT];omega)];have:=ih k (by simpa using hx);rw [← this]
   congr 1
   simp [zT];omega
theorem Vg {W:World}{l:List (Nat×Int×List UInt8)}{b off cap:Nat}(h:Src W (.slice (some ⟨b,off,none⟩) l.length cap) 3 l.length (l.flatMap zT)){k:Nat}{x:(Nat×Int×List UInt8)}(hx:l[k]?=some x):
 W.cell? ⟨b,off+k*3,none⟩=some (.int .u32 (x.1:Nat))/\W.cell? ⟨b,off+k*3+1,none⟩=some (.int .i64 x.2.1)/\W.cell? ⟨b,off+k*3+2,none⟩=some (.string (bs x.2.2)):=by
 rcases h.2 with⟨h, -⟩|⟨b',off',cap',h, -,hr⟩
 ·cases h
 ·cases h
  have hcell:∀j u,(zT x)[j]?=some u->j<3->W.cell? ⟨b,off+(k*3+j),none⟩=some u:=λj u hu hj=>hr _ u ((xV l k x hx j hj).trans hu)
  exact⟨hcell 0 _ rfl (by omega),hcell 1 _ rfl (by omega),hcell 2 _ rfl (by omega)⟩
theorem zaf {W:World}{l:List (Nat×Int×List UInt8)}{b off cap:Nat}(h:Src W (.slice (some ⟨b,off,none⟩) l.length cap) 3 l.length (l.flatMap zT)){k:Nat}(hk:k<=l.length):
 Src W (.slice (some ⟨b,off+k*3,none⟩) (l.length - k) (cap - k)) 3 (l.drop k).length ((l.drop k).flatMap zT):=by
 rw [U3];refine⟨by rw [yg,U3],.inr ⟨b,off+k*3,cap - k,rfl,?_,λj u hu=>?_⟩⟩
 ·rcases h.2 with⟨h, -⟩|⟨b',off',cap',h,hc,hr⟩
  ·cases h
  ·cases h;omega
 ·rcases h.2 with⟨h, -⟩|⟨b',off',cap',h,hc,hr⟩
  ·cases h
  ·cases h
   rw [Nat.add_assoc];refine hr _ u ?_;have hap:l.flatMap zT=(l.take k).flatMap zT++(l.drop k).flatMap zT:=by rw [← U5,List.take_append_drop]
   have hl:((l.take k).flatMap zT).length=k*3:=by rw [yg,N7,Nat.min_eq_left hk]
   rw [hap,U6 (by omega),hl,Nat.add_sub_cancel_left];exact hu
def zfC(x:(Nat×Int×List UInt8)):Value:=.agg #[.int .u32 (x.1:Nat),.int .i64 x.2.1,.string (bs x.2.2)]
def Y9(notes:List (Nat×Int×List UInt8))(p:Int):List (Nat×Int×List UInt8)×(Nat×Int×List UInt8)×Int:=if p<0 then(notes,(0,0,[]),2)else match notes[p.toNat]? with
 |none=>(notes,(0,0,[]),2)
 |some x=>(notes.eraseIdx p.toNat,x,0)
theorem zag {notes:List (Nat×Int×List UInt8)}{p:Int}(h:¬(0<=p/\p<notes.length)):Y9 notes p=(notes,(0,0,[]),2):=by
 unfold Y9
 split
 ·rfl
 ·rw [List.getElem?_eq_none (by omega)]
theorem zhn {notes:List (Nat×Int×List UInt8)}{k:Nat}{x:(Nat×Int×List UInt8)}(h:notes[k]?=some x):Y9 notes (k:Int)=(notes.eraseIdx k,x,0):=by
 unfold Y9;rw [if_neg (by omega),Int.toNat_natCast,h]
theorem Qu(B last:Nat)(notes:List (Nat×Int×List UInt8))(t:List Nat)(ow:Own)(p:Int)(w:World)(h:jk B last notes t ow w)(hn:notes.length<=1000):
 Calls prog 86 #[.pointer (some ⟨B,0,none⟩),.int .i64 p] w (vY B last (Y9 notes p).1 t ow w (.tuple #[zfC (Y9 notes p).2.1,.int .i64 (Y9 notes p).2.2])):=by
 have h0:=h;obtain⟨lv,hB,hR,o1,o2⟩:=h;obtain⟨ha,hc,rfl⟩:=hR.shape;have his:=λW hW=>zad B last notes.length hc ha p W hW
 by_cases hp:0<=p/\p<(notes.length:Int)
 ·obtain⟨k,rfl⟩:∃k:Nat,p=(k:Int):=⟨p.toNat,by omega⟩
  have hk:k<notes.length:=by omega
  obtain⟨x,hx⟩:∃x,notes[k]?=some x:=⟨_,N3 hk⟩;rw [zhn hx];simp only [show decide (0<=(k:Int))=true by simp,show decide ((k:Int)<(notes.length:Int))=true by simpa using hk,Bool.and_self] at his
  obtain⟨g,rfl⟩:∃g,ha=some ⟨g,0,none⟩:=by
   rcases hR.2 with⟨h,h1⟩|⟨g,cap,cur,h, -⟩
   ·omega
   ·cases h;exact⟨g,rfl⟩
  obtain⟨c0,c1,c2⟩:=Vg hR.src hx;simp only [Nat.zero_add] at c0 c1 c2;have lg:=hR.lt (g:=g) rfl;have hBa:=hB.alloc (.cells #[.int .u32 0,.int .i64 0,.string ⟨#[]⟩] 106);have e0:=hBa.cell;have cl:=λ(q:Addr)(hq:q.block<w.heap.size)=>((N2 w.heap.size w).alloc (N0 _) (.cells #[.int .u32 0,.int .i64 0,.string ⟨#[]⟩] 106)).cell hq
  have d0:=(cl ⟨g,k*3,none⟩ lg).trans c0;have d1:=(cl ⟨g,k*3+1,none⟩ lg).trans c1;have d2:=(cl ⟨g,k*3+2,none⟩ lg).trans c2;have y0:(0:Int)<=(k:Int):=by omega
  have y1:(k:Int)<(notes.length:Int):=by omega
  replace his:=G his;replace h0:=G h0;replace cl:=G cl;clear c0 c1 c2
  go_enter func86,ntmps86
  go_wp2_with fail
  refine(his.out _ hBa).mono ?_;rintro e w1⟨rfl,hw1⟩;obtain rfl:=hw1.symm;go_wp2_with fail
  have hz:notes.length<=hc:=by
   rcases hR.2 with⟨h,h1⟩|⟨g,cap,cur,h, -,h2, -⟩
   ·omega
   ·cases h;exact h2
  have y2:(k:Int)<=(hc:Int):=by omega
  have y3:(0:Int)<=(k:Int)+1:=by omega
  have y4:(k:Int)+1<=(notes.length:Int):=by omega
  have y5:IntKind.i64.wrap ((k:Int)+1)=(k:Int)+1:=by rw [N8];omega
  have kBb:=(hBa.alloc (.cells #[.int .u32 (x.1:Nat),.int .i64 x.2.1,.string (bs x.2.2)] 106)).drew;refine zd [O 0,O 1,O 2,O 3,O 4,O 5,O 6,O 7,O 8,O 9,O 10,O 11,O 12,O 13,O 14,E 15,O 16,O 17,E 18] (some 18) (λw'=>Blk w' B #[.int .u32 last,.slice (some ⟨g,0,none⟩) notes.length hc] 110/\True) (by kernel_rfl) (by kernel_rfl) ⟨kBb,trivial⟩ ?_
  (repeat (refine za (v:=?_) rfl rfl (λw' h=>?_) (λK k=>?_);rotate_left;obtain⟨f1,_⟩:=h;have e1:=f1.cell;go_simp;(try with_reducible rfl);go_simp;refine k _ ?_;clear k K))
  obtain⟨W,hW⟩:∃W,W=((w.alloc (.cells #[.int .u32 0,.int .i64 0,.string ⟨#[]⟩] 106)).alloc (.cells #[.int .u32 (x.1:Nat),.int .i64 x.2.1,.string (bs x.2.2)] 106)).drew:=⟨_,rfl⟩;have hbW:Below w.heap.size w W:=by rw [hW];exact pbx
  have hsz:W.heap.size=w.heap.size+1+1:=by rw [hW];simp
  have k0:Blk W w.heap.size #[.int .u32 0,.int .i64 0,.string ⟨#[]⟩] 106:=by rw [hW];exact((Blk.new rfl).alloc _).drew
  have k1:Blk W (w.heap.size+1) #[.int .u32 (x.1:Nat),.int .i64 x.2.1,.string (bs x.2.2)] 106:=by rw [hW];exact(Blk.new (by simp)).drew
  have hRW:=hR.kept (λq hq=>hbW.block q (hR.lt hq))
  have hsrc:Src W (.slice (if hc=k+1 then some ⟨g,0,none⟩else some ⟨g,(k+1)*3,none⟩) (notes.length - (k+1)) (hc - (k+1))) 3 (notes.drop (k+1)).length ((notes.drop (k+1)).flatMap zT):=by
   have h:=zaf hRW.src (show k+1<=notes.length by omega);rw [Nat.zero_add] at h
   by_cases hck:hc=k+1
   ·rw [if_pos hck]
    have hn1:notes.length=k+1:=by omega
    have hd:notes.drop (k+1)=[]:=List.drop_eq_nil_of_le (by omega);rw [hd,hn1,Nat.sub_self];exact⟨rfl,.inr ⟨g,0,_,rfl,Nat.zero_le _,λj u hu=>by simp at hu⟩⟩
   ·rw [if_neg hck];exact h
  generalize(if hc=k+1 then some (⟨g,0,none⟩:Addr)else some ⟨g,(k+1)*3,none⟩)=sp at hsrc⊢
  have hclip:=hRW.clip k (by omega) (by simp);have hdl:(notes.drop (k+1)).length=notes.length - (k+1):=by rw [U3]
  obtain⟨v',W8,hrun,hrow,hgr,hown⟩:=Xg zjS hclip hsrc (qK _) (by omega) 73
  have her:(notes.flatMap zT).take (k*3)++(notes.drop (k+1)).flatMap zT=(notes.eraseIdx k).flatMap zT:=by
   rw [List.eraseIdx_eq_take_drop_succ,U5]
   congr 1
   conv=>lhs;rw [← List.take_append_drop k notes,U5]
   rw [List.take_append_of_le_length (by rw [yg,N7];omega),List.take_of_length_le (by rw [yg,N7];omega)]
  have hel:k+(notes.drop (k+1)).length=(notes.eraseIdx k).length:=by rw [List.length_eraseIdx_of_lt hk];omega
  rw [her,hel] at hrow;have hgB:g≠B:=hR.ne_blk hB (by decide) rfl;have kB8:=(hB.below hbW hB.lt).kept (hgr.block B (by have:=hB.lt;omega) (λe=>hgB (by simpa [Value.ownBlock] using e.symm)))
  have k08:=k0.kept (hgr.block w.heap.size (by omega) (λe=>by have:w.heap.size=g:=by simpa [Value.ownBlock] using e
                                                              omega))
  have k18:=k1.kept (hgr.block (w.heap.size+1) (by omega) (λe=>by have:w.heap.size+1=g:=by simpa [Value.ownBlock] using e
                                                                  omega))
  obtain⟨sa,sc,rfl⟩:=hrow.shape;have hneD:w.heap.size≠B:=by have:=hB.lt;omega
  have hneD1:w.heap.size+1≠B:=by have:=hB.lt;omega
  have lB8:=kB8.lt;replace hrow:=G hrow;replace hown:=G hown;replace hrun:=G hrun;replace hsrc:=G hsrc;replace her:=G her;replace hel:=G hel;replace hdl:=G hdl;replace hx:=G hx;rw [← hW];refine zc rfl (λK hK=>?_);refine zu rfl _ _ _ rfl rfl rfl hrun.out ?_;unfold wpList;refine hK.out _ _ (λ_=>⟨kB8,trivial⟩) ?_;clear hK K e0
  (repeat (refine za (v:=?_) rfl rfl (λw' h=>?_) (λK k=>?_);rotate_left;obtain⟨f1,_⟩:=h;have e1:=f1.cell;go_simp;(try with_reducible rfl);go_simp;refine k _ ?_;clear k K))
  have fB8:=kB8.frozen;have cB8:=kB8.cell;refine zc rfl (λK hK=>?_);go_wp2;refine hK.out _ _ (λhh=>absurd rfl hh) ?_;clear hK K fB8 cB8;refine ze ?_;have k09:=k08.other (p:=⟨B,1,none⟩) hneD (.slice sa (notes.eraseIdx k).length sc);have k19:=k18.other (p:=⟨B,1,none⟩) hneD1 (.slice sa (notes.eraseIdx k).length sc);have c0:=k09.cell;have f0:=k09.frozen;have l0:=k09.lt;have c1:=k19.cell;have rr:=(((k09.set (o:=0) (.int .u32 (x.1:Nat))).set (o:=1) (.int .i64 x.2.1)).set (o:=2) (.string (bs x.2.2))).cell
  have ho8:∀q,(Value.slice sa (notes.eraseIdx k).length sc).ownBlock=some q->q=g∨q=W.heap.size:=λq hq=>by
   have:=hown.out;rw [hq] at this
   rcases this with h|h
   ·left;simpa [Value.ownBlock] using h
   ·right;simpa using h
  have hog:ow g=t:=o2 g rfl;replace o2:=G o2;replace ho8:=G ho8;go_wp2;refine bodyPost_ret (v:=.tuple #[zfC x,.int .i64 0]) (by simp [results,Tryz.results86,go_sem,rr];rfl) rfl ⟨rfl,ow.ext W.heap.size (λq=>(Value.slice sa (notes.eraseIdx k).length sc).ownBlock=some q) t,?_,?_⟩
  ·have s1:zq t ow w ow W8:=(zq.of_below t ow hbW).trans (zq.grown hgr (λq hq=>by
    have:g=q:=by simpa [Value.ownBlock] using hq
    rw [← this,hog];exact Sub.rfl' t))
   have s2:=s1.trans (zq.setCell W8 ⟨B,1,none⟩ (.slice sa (notes.eraseIdx k).length sc) (by rw [o1];exact Sub.rfl' t));exact(((s2.setNew ⟨w.heap.size,0,none⟩ _ (N0 _)).setNew ⟨w.heap.size,1,none⟩ _ (N0 _)).setNew ⟨w.heap.size,2,none⟩ _ (N0 _)).own (λq hq=>Own.ext_old (by omega))
  ·have hneq:∀q,(Value.slice sa (notes.eraseIdx k).length sc).ownBlock=some q->q≠B/\q≠w.heap.size:=λq hq=>by
    rcases ho8.out q hq with rfl|rfl
    ·exact⟨hgB,by omega⟩
    ·have:=hB.lt;exact⟨by omega,by omega⟩
   refine⟨_,(((kB8.set (o:=1) (.slice sa (notes.eraseIdx k).length sc)).other (p:=⟨w.heap.size,0,none⟩) (Ne.symm hneD) _).other (p:=⟨w.heap.size,1,none⟩) (Ne.symm hneD) _).other (p:=⟨w.heap.size,2,none⟩) (Ne.symm hneD) _,hrow.out.kept (λq hq=>?_),?_,λq hq=>?_⟩
   ·have h1:=hneq q hq
    rw [N4 _ _ _ _ h1.2,N4 _ _ _ _ h1.2,N4 _ _ _ _ h1.2,N4 _ _ _ _ h1.1]
   ·rw [Own.ext_old (by have:=hB.lt;omega),o1]
   ·rcases ho8.out q hq with rfl|rfl
    ·rw [Own.ext_old (by omega),hog]
    ·rw [Own.ext_new (N0 _) hq]
 ·rw [zag hp]
  have hb:(decide (0<=p)&& decide (p<(notes.length:Int)))=false:=by simpa using hp
  rw [hb] at his;have hBa:=hB.alloc (.cells #[.int .u32 0,.int .i64 0,.string ⟨#[]⟩] 106);have kr:Blk (w.alloc (.cells #[.int .u32 0,.int .i64 0,.string ⟨#[]⟩] 106)) w.heap.size #[.int .u32 0,.int .i64 0,.string ⟨#[]⟩] 106:=Blk.new rfl;have rr:=(((kr.set (o:=0) (.int .u32 0)).set (o:=1) (.int .i64 0)).set (o:=2) (.string ⟨#[]⟩)).cell;have e0:=kr.cell;have f0:=kr.frozen;have l0:=kr.lt;replace his:=G his;replace hb:=G hb;replace h0:=G h0;clear hB hR o2
  go_enter func86,ntmps86
  go_wp2_with fail
  refine(his.out _ hBa).mono ?_;rintro e w1⟨rfl,hw1⟩;obtain rfl:=hw1.symm;go_wp2;exact bodyPost_ret (v:=.tuple #[zfC (0,0,[]),.int .i64 2]) (by simp [results,Tryz.results86,go_sem,e0];rfl) rfl ⟨rfl,ow,zq.of_below t ow (pbx),(jk.loc B last notes t).below h0.out (pbx)⟩
end
section
open Go Go.RowKit
variable {P:Program}{ops:Array Oper}{Q:Exit->Act->World->Prop}
abbrev Qv:World->Prop:=λ_=>True
def YT(ops:Array Oper):Option Nat->List (Nat×Bool)->Array Bool->Bool
 |_,[],listed=>(Region.ready .any ops listed).isEmpty
 |brk,(i,true)::r,listed=>(match brk with|none=>true|some f=> !listed.getD f true &&(zkb ops f).contains i && i !=f)&&(Region.ready .any ops listed).contains i && Region.free .any ops listed i && YT ops brk r (listed.setIfInBounds i true)
 |brk,(i,false)::r,listed=>decide (Region.ready .any ops listed=[i])&& YT ops (if brk=some i then none else brk) r (listed.setIfInBounds i true)
def yY(P:Program)(ops:Array Oper)(Q:Exit->Act->World->Prop):(World->Prop)->Option Nat->List (Nat×Bool)->Act->World->Prop
 |_,_,[],a,w=>Q .normal a w
 |S,brk,(i,true)::r,a,w=>∃o v,ops[i]?=some o/\YieldsIf P ops S o v a/\yY P ops Q S brk r (a.put o.dst v) w
 |S,brk,(i,false)::r,a,w=>wpOp P ops (λ_ _ _=>False) i (λa' w'=>(brk=some i->yY P ops Q Qv none r a' w')/\(brk≠some i->S w'/\yY P ops Q S brk r a' w')) a w
theorem Je {S:World->Prop}{f:Nat} :∀(fuel:Nat)(listed:Array Bool)(a:Act)(w:World),listed.getD f true=true->yv P ops Q Qv none fuel listed a w->yv P ops Q S (some f) fuel listed a w
 |0,_,_,_,_,h=>h
 |fuel+1,listed,a,w,hf,h=>⟨h.1,λi hi=>wpOp_mono (λa' w' h'=>by
  have hf':(listed.setIfInBounds i true).getD f true=true:=by
   by_cases e:i=f
   ·subst e
    by_cases hb:i<listed.size
    ·simp [hb]
    ·simp
   ·rw [getD_set_ne true e];exact hf
  exact⟨λhas=>absurd (has f rfl) (by rw [hf'];simp),Je fuel _ a' w' hf' h'.2⟩) (h.2 i hi)⟩
theorem xW(hsel:Region.noSelect ops=true):∀(l:List (Nat×Bool)) (S:World->Prop) (brk:Option Nat) (listed:Array Bool) (a:Act) (w:World),YT ops brk l listed=true->ZS ops listed->(ZZ brk listed->S w)->
 yY P ops Q S brk l a w->yv P ops (ji Q) S brk l.length listed a w
 | [],S,brk,listed,a,w,hB,hc,hS,h=>⟨by simpa [YT] using hB,h⟩
 |(i,true)::l,S,brk,listed,a,w,hB,hc,hS,h=>by
  simp only [YT,Bool.and_eq_true] at hB;obtain⟨⟨⟨hk,hr⟩,hf⟩,hB⟩:=hB;have hr':i∈Region.ready .any ops listed:=by simpa using hr
  have has:ZZ brk listed:=λf hf=>by subst hf;simp at hk;simpa using hk.1.1
  obtain⟨o,v,ho,hy,h⟩:=h
  exact Zd ho (Region.noSelect_spec hsel) (λ_ _ _ h=>h) (λf hf=>(by subst hf;simp at hk;exact⟨hk.1.2,hk.2⟩)) _ listed a w hc has (Region.free_spec ho hf) hr' hy (hS has)
   (xW hsel l S brk _ _ w hB (hc.set hr') (λ_=>hS has) h)
 |(i,false)::l,S,brk,listed,a,w,hB,hc,hS,h=>by
  simp only [YT,Bool.and_eq_true,decide_eq_true_eq] at hB;obtain⟨hr,hB⟩:=hB;refine⟨λh0=>(by rw [h0] at hr;cases hr),λj hj=>?_⟩;have hji:j=i:=by rw [hr] at hj;simpa using hj
  subst hji
  have hlt:j<listed.size:=by
   rcases Nat.lt_or_ge j listed.size with h'|h'
   ·exact h'
   ·have:=(mem_ready.1 hj).1;simp [Array.getElem?_eq_none h'] at this
  refine wpOp_mono (λa' w' ⟨h1,h2⟩=>?_) (vT h)
  by_cases hb:brk=some j
  ·subst hb
   rw [if_pos rfl] at hB;exact⟨λhas=>absurd (has j rfl) (by simp [hlt]),Je _ _ a' w' (by simp [hlt]) (xW hsel l Qv none _ a' w' hB (hc.set hj) (λ_=>trivial) (h1 rfl))⟩
  ·rw [if_neg hb] at hB
   obtain⟨hS',h3⟩:=h2 hb;exact⟨λ_=>hS',xW hsel l S brk _ a' w' hB (hc.set hj) (λ_=>hS') h3⟩
theorem vg {id:Nat}{a:Act}{w:World}{l:List Oper}(sch:List (Nat×Bool))(brk:Option Nat)(S:World->Prop)(hm:P.follows .mixedOrders=true)
 (hB:(Region.noSelect l.toArray && decide (sch.length=l.length)&& YT l.toArray brk sch (Array.replicate l.length false))=true) (hS:S w.drew)
 (h:yY P l.toArray Q S brk sch a w.drew):(Code.region id l.toArray true).wp P Q a w:=by
 simp only [Bool.and_eq_true,decide_eq_true_eq] at hB;obtain⟨⟨h1,h2⟩,h3⟩:=hB;have H:=xW h1 sch S brk _ a w.drew h3 (qz l) (λ_=>hS) h;rw [h2] at H;exact wp_mono (wp_region_any (Q:=ji Q) hm (by simpa using qp _ _ _ _ H)) (λe a w h=>ji.imp e a w h)
variable {S:World->Prop}{brk:Option Nat}
theorem zY {a:Act}{w:World}(h:Q .normal a w):yY P ops Q S brk [] a w:=by unfold yY;exact h
theorem zA {i:Nat}{r:List (Nat×Bool)}{o:Oper}{a:Act}{w:World}{v:Value}(ho:ops[i]?=some o)(hg:Region.wanted o (yielded ops a.tmps)=true)
 (h1:∀w',S w'->(execOp a.eval o).run P w'=.ok (.value v) w') (h2:∀K:Act->Prop,(∀a',yY P ops Q S brk r a' w->K a')->K (a.put o.dst v)):yY P ops Q S brk ((i,true)::r) a w:=by
 unfold yY;exact⟨o,v,ho,.inl ⟨hg,h1⟩,h2 _ (λ_ h=>h)⟩
theorem jT {i:Nat}{o:Oper}{a:Act}{w:World}{R:Act->World->Prop}(ho:ops[i]?=some o)
 (h:∀K:Act->World->Prop,Shut (∀a' w',R a' w'->K a' w')->wpList P ops (Exit.then K (λ_ _ _=>False)) [o] a w):wpOp P ops (λ_ _ _=>False) i R a w:=by
 have H:=h R (λa' w' h1=>h1);unfold wpOp;rw [ho];unfold wpList at H;simp only
 split
 ·rename_i hw
  rw [if_pos hw] at H
  rcases H with H|⟨_,_,_,H⟩
  ·refine .inl ?_
   unfold Oper.wp at*
   generalize(execOp a.eval o).run P w=x at*
   cases x with
   |ok n w'=>
    cases n<;>simp only [Oper.upon] at H⊢<;>
     first
      |exact H
      |exact Calls.mono H (λe w'' he=>by cases e<;>first|exact he|exact he.elim|(obtain⟨_,_,h0⟩:=he;exact h0.elim))
      |exact Rows.mono H (λ_ _ he=>he)
   |halt x w'=>cases x<;>simp only [Oper.upon] at H⊢<;>first|exact H|exact H.elim
  ·exact H.elim
 ·rename_i hw
  rw [if_neg hw] at H;exact H
theorem zQ {i:Nat}{r:List (Nat×Bool)}{o:Oper}{a:Act}{w:World}(ho:ops[i]?=some o)(hb:brk≠some i)
 (h:∀K:Act->World->Prop,Shut (∀a' w',S w'->yY P ops Q S brk r a' w'->K a' w')->wpList P ops (Exit.then K (λ_ _ _=>False)) [o] a w):yY P ops Q S brk ((i,false)::r) a w:=by
 unfold yY;exact jT ho (λK hK=>h K (λa' w' h1 h2=>hK.out a' w' ⟨λe=>absurd e hb,λ_=>⟨h1,h2⟩⟩))
theorem vr {i:Nat}{r:List (Nat×Bool)}{o:Oper}{a:Act}{w:World}(ho:ops[i]?=some o)
 (h:∀K:Act->World->Prop,Shut (∀a' w',yY P ops Q Qv none r a' w'->K a' w')->wpList P ops (Exit.then K (λ_ _ _=>False)) [o] a w):yY P ops Q S (some i) ((i,false)::r) a w:=by
 unfold yY;exact jT ho (λK hK=>h K (λa' w' h1=>hK.out a' w' ⟨λ_=>h1,λe=>absurd rfl e⟩))
end
open Go Go.RowKit Go.Shelf Go.Extern.Stop Go.Stop Go.Extern
attribute [local go_sem] Oper.semAt_some zw zn
theorem zfD(B last:Nat)(notes:List (Nat×Int×List UInt8))(t:List Nat)(ow:Own)(p:Int)(w:World)(h:jk B last notes t ow w)(hn:notes.length<=1000):
 Calls prog 90 #[.pointer (some ⟨B,0,none⟩),.int .i64 p] w (vY B last (Y9 notes p).1 t ow w (.int .i64 (Y9 notes p).2.2)):=by
 have hl:=Qu B last notes t ow p w h hn
 generalize Y9 notes p=q at*
 obtain⟨q1,⟨qi,qd,qs⟩,q4⟩:=q;unfold zfC at hl;simp only at hl⊢;replace hl:=G hl;clear h
 go_enter func90,ntmps90
 go_wp2_with fail
 refine hl.out.mono ?_;rintro e w1⟨rfl,ow1,hs,hF⟩;go_wp2;go_ret
 exact⟨rfl,ow1,hs.trans (zq.of_below t ow1 (pbx)),(jk.loc B last q1 t).below hF (pbx)⟩
def Zn(last:Nat)(notes:List (Nat×Int×List UInt8))(p:Int):Nat×List (Nat×Int×List UInt8)×Nat×Int:=if p<0 then(last,notes,0,2)else match notes[p.toNat]? with
 |none=>(last,notes,0,2)
 |some x=>jQ last notes x.2.1 x.2.2
theorem zfE(B last:Nat)(notes:List (Nat×Int×List UInt8))(hlast:last<4294967295)(t:List Nat)(ow:Own)(p:Int)(w:World)(h:jk B last notes t ow w)(hn:notes.length<=1000):
 Calls prog 91 #[.pointer (some ⟨B,0,none⟩),.int .i64 p] w (vY B (Zn last notes p).1 (Zn last notes p).2.1 t ow w (.tuple #[.int .u32 ((Zn last notes p).2.2.1:Nat),.int .i64 (Zn last notes p).2.2.2])):=by
 have h0:=h;obtain⟨lv,hB,hR,o1,o2⟩:=h;obtain⟨ha,hc,rfl⟩:=hR.shape;have his:=λW hW=>zad B last notes.length hc ha p W hW
 have e0:=hB.cell
 by_cases hp:0<=p/\p<(notes.length:Int)
 ·obtain⟨k,rfl⟩:∃k:Nat,p=(k:Int):=⟨p.toNat,by omega⟩
  have hk:k<notes.length:=by omega
  obtain⟨x,hx⟩:∃x,notes[k]?=some x:=⟨_,N3 hk⟩
  have hcp:Zn last notes (k:Int)=jQ last notes x.2.1 x.2.2:=by
   unfold Zn;rw [if_neg (by omega),Int.toNat_natCast,hx]
  rw [hcp];simp only [show decide (0<=(k:Int))=true by simp,show decide ((k:Int)<(notes.length:Int))=true by simpa using hk,Bool.and_self] at his
  obtain⟨g,rfl⟩:∃g,ha=some ⟨g,0,none⟩:=by
   rcases hR.2 with⟨h,h1⟩|⟨g,cap,cur,h, -⟩
   ·omega
   ·cases h;exact⟨g,rfl⟩
  obtain⟨c0,c1,c2⟩:=Vg hR.src hx;simp only [Nat.zero_add] at c0 c1 c2;have hla:=λW hW=>YS B last notes hlast t ow x.2.1 x.2.2 W hW hn
  generalize jQ last notes x.2.1 x.2.2=q at*
  obtain⟨q1,q2,q3,q4⟩:=q;obtain⟨xi,xd,xs⟩:=x;simp only at hla c0 c1 c2⊢;have y0:(0:Int)<=(k:Int):=by omega
  have y1:(k:Int)<(notes.length:Int):=by omega
  replace his:=G his;replace hla:=G hla;replace h0:=G h0;replace hx:=G hx;replace hcp:=G hcp;clear hR o2
  go_enter func91,ntmps91
  go_wp2_with fail
  refine(his.out _ hB).mono ?_;rintro e w1⟨rfl,hw1⟩;obtain rfl:=hw1.symm;go_wp2_with fail
  refine vg [O 0,O 1,O 2,O 3,O 4,O 5,O 6,O 7,O 8,O 9,O 10,O 11,O 12,O 13,O 14,O 15,O 16,E 17,O 18,O 19,O 20,O 21] (some 17) (λw'=>Blk w' B #[.int .u32 last,.slice (some ⟨g,0,none⟩) notes.length hc] 110/\w'.cell? ⟨g,k*3+1,none⟩=some (.int .i64 xd)/\w'.cell? ⟨g,k*3+2,none⟩=some (.string (bs xs))/\True) (by kernel_rfl) (by kernel_rfl) ⟨hB.drew,c1,c2,trivial⟩ ?_
  (repeat (refine zA (v:=?_) rfl rfl (λw' h=>?_) (λK k=>?_);rotate_left;obtain⟨f1,f2,f3,_⟩:=h;have e1:=f1.cell;go_simp;(try with_reducible rfl);go_simp;refine k _ ?_;clear k K))
  refine vr rfl (λK hK=>?_);go_wp2_with fail
  refine(hla.out _ ((jk.loc B last notes t).below h0.out (pbx))).mono ?_;rintro e w2⟨rfl,ow2,hs2,hF⟩;go_wp2;refine hK.out _ _ ?_;clear hK K
  (repeat (refine zA (v:=?_) rfl rfl (λw' h=>?_) (λK k=>?_);rotate_left;(focus (clear h;go_simp;(try with_reducible rfl)));(go_simp;refine k _ ?_;clear k K)))
  refine zY ?_;go_wp2;go_ret2
  exact⟨rfl,ow2,(zq.of_below t ow (pbx)).trans hs2,hF⟩
 ·have hcp:Zn last notes p=(last,notes,0,2):=by
   unfold Zn
   split
   ·rfl
   ·rw [List.getElem?_eq_none (by omega)]
  rw [hcp];have hb:(decide (0<=p)&& decide (p<(notes.length:Int)))=false:=by simpa using hp
  rw [hb] at his;replace his:=G his;replace hb:=G hb;replace hcp:=G hcp;replace h0:=G h0;clear hR o2
  go_enter func91,ntmps91
  go_wp2_with fail
  refine(his.out _ hB).mono ?_;rintro e w1⟨rfl,hw1⟩;obtain rfl:=hw1.symm;go_wp2;go_ret2
  exact⟨rfl,ow,zq.refl _ _ _,h0.out⟩
