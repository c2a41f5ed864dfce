/- PARTS OF THE PROOF. -/
import Derived.Test.YtofppfoioodblaaGreatDoorTT35
import Derived.Test.YtofppfoioodblaaGreatDoorTT46
set_option maxRecDepth 8000
set_option maxHeartbeats 4000000
open Go.Proofs.Tryz
namespace Go.Proofs.YtofppfoioodblaaGreatDoor
section
open Go Go.RowKit Go.Shelf Go.Extern.Stop Go.Stop Go.Extern
attribute [local go_sem] Oper.semAt_some zv zm
structure Vl(t:List Nat)(w:World)(B:Nat)(K:WK)(S:zf)(ow:Own)(W:World):Prop where
 st:zq t (λ_=>[]) w ow W
 is:zL B K S t ow W
variable {t:List Nat}{w W W':World}{B:Nat}{K:WK}{S:zf}{ow:Own}{a:Addr}{v:Int}{k L:Nat}
theorem Vl.bel(ht:t≠ [])(h:Vl t w B K S ow W):Below w.heap.size w W:=h.st.below (N0 _) (λ_ _=>zj ht)
theorem Vl.below(h:Vl t w B K S ow W)(hb:Below W.heap.size W W'):Vl t w B K S (ow.cut W) W':=
 ⟨h.st.trans (zq.wrap hb (zq.refl _ _ _)),(zL.loc B K S t).cut h.is hb⟩
theorem Vl.err(ht:t≠ [])(h:Vl t w B K S ow W)(he:jE w a):jE W a/\ow 2=[]:=⟨he.step ht h.st rfl,h.st.agree _ he.lt⟩
def zau(t:List Nat)(w:World)(B:Nat)(K:WK)(S:zf)(v:Value)(e:Ending)(w':World):Prop:=e=.returned v/\∃ow,Vl t w B K S ow w'
theorem Vl.doesA(ht:t≠ [])(h:Vl t w B K S ow W)(he:jE w a)(hG:zu v k L S)(hk:k<=100000000)(hL:L<=3000000000)(hv:known v=true)(o:OpD)(ho:zkX o)(hA:zbO o.kind)(hi:o.kind≠3->0<=o.node/\o.node<S.nodes.length):
 Calls prog 13 #[.pointer (some ⟨B,0,none⟩),opV o] W (zau t w B K (doW (zt v) S o).1 (.int .i64 (doW (zt v) S o).2)):=by
 have h1:=h.err ht he;refine(zkZ hG hk hL hv ht o ho hA hi h.is h1.1 h1.2).mono ?_;rintro e w'⟨rfl,ow',hs,hW⟩;exact⟨rfl,ow',h.st.trans hs,hW⟩
theorem Vl.fair(ht:t≠ [])(h:Vl t w B K S ow W)(he:jE w a)(hG:zu v k L S)(hv:known v=true)(r:Nat)(hr:r<=1000){g:Nat}{S':zf}{b:Bool}(hF:YB (zt v) r g S S' b)(hL:L+16*g<=3000000000)(hk:k+g<=100000000):
 Calls prog 11 #[.pointer (some ⟨B,0,none⟩),.int .i64 (r:Nat)] W (zau t w B K S' (.tuple #[.bool b,.int .i64 0])):=by
 have h1:=h.err ht he;refine(zhW hG hv ht r hr hF hL hk h.is h1.1 h1.2).mono ?_;rintro e w'⟨rfl,ow',hs,hW⟩;exact⟨rfl,ow',h.st.trans hs,hW⟩
theorem v8.good {s:StD}{f:Nat}{p:Zl}{S S':zf}(h:v8 s f p S S'):∀ {k L:Nat},s=zt v->zu v k L S->L+16*f<=3000000000->zu v (k+f) (L+16*f) S':=by
 induction h with
 |done _ _=>intro k L _ hG _;exact hG
 |step h1 h2 h3 ih=>
  rename_i p q S S' f
  intro k L hs hG hL;have:=ih hs (zhU _ _ v k L hs hG (by omega) q) (by omega)
  rwa [show k+1+f=k+(f+1)by omega,show L+16+16*f=L+16*(f+1)by omega] at this
theorem YB.good {s:StD}{r g:Nat}{S S':zf}{b:Bool}(h:YB s r g S S' b):∀ {k L:Nat},s=zt v->zu v k L S->L+16*g<=3000000000->zu v (k+g) (L+16*g) S':=by
 induction h with
 |none=>intro k L _ hG _;exact hG
 |rests _=>intro k L _ hG _;exact hG
 |round h1 h2 h3 ih=>
  rename_i r f g S S1 S' b
  intro k L hs hG hL;have:=ih hs (h2.good hs hG (by omega)) (by omega)
  rwa [show k+f+g=k+(f+g)by omega,show L+16*f+16*g=L+16*(f+g)by omega] at this
end
section
open Go
def yR(ss:List jW):Prop:=∀i:Nat,(ss[i]?.getD yV).stale=false/\(ss[i]?.getD yV).lent=false
theorem zav {w:zf}(h:yR w.seats)(d:Bool)(i:Nat):tellOne w d i=w:=by
 have h1:=h i;unfold tellOne;simp only;rw [show jg w i=w.seats[i]?.getD yV from rfl,h1.1,h1.2];simp
theorem Xv {w:zf}(h:yR w.seats)(d:Bool)(l:List Nat):l.foldl (λw i=>tellOne w d i) w=w:=by
 induction l with
 |nil=>rfl
 |cons i l ih=>rw [List.foldl_cons,zav h];exact ih
theorem ZC {w:zf}(h:yR w.seats):vZ w=w:=by
 unfold vZ;rw [Xv h,Xv h]
def y7(w:zf):zf:=vZ (xw w 0).1
theorem zku(s:StD)(w:zf):(doW s w ⟨3,0,0,0,0,[]⟩).1=y7 w:=by
 unfold doW yZ y7;simp
variable {W:zf}{ns:List zp}{ss:List jW}{ld:List (Int×j8)}{ls:List vr}{tr:List JP}
theorem IsW.setNode(h:IsW W ns ss ld ls tr)(j:Nat)(m:zp):IsW (setNode W j m) (ns.set j m) ss ld ls tr:=⟨by show W.nodes.set j m=_;rw [h.nodes],h.seats,h.leads,h.notes,h.hurt,h.trace⟩
theorem IsW.prepare {i j q b:Nat}{m m':zp}(h:IsW W ns ss ld (⟨3,i,j,q,b,[]⟩::ls) tr)(hq:yR ss)(hi:i<16)(hj:j<16)(hq2:q<4294967296)(hb:b<18446744073709551616)(hm:ns[j]?=some m)(hup:m.down=false)
 (hk:zD (q:Int) m.pax.known=none) (hp:zA m q b=(m',(b,0,[]),0)) (hl:ls.length<999):IsW (y7 W) (ns.set j m') ss ld (ls++ [⟨4,j,i,q,b,le8 0⟩]) tr:=by
 obtain⟨V,hV,ht⟩:=h.take ⟨by show 3<=7;omega,hi,hj,hq2,hb,by simp⟩ (m:=m) hm hup;have hn:zr V j=m:=by rw [hV.node,hm];rfl
 have hr:jt V j 3 i q b []=yY (Go.Proofs.YtofppfoioodblaaGreatDoor.setNode V j m') (ji 4 j i q b (le8 0)):=by
  unfold jt;rw [if_pos (.inl rfl)];unfold yO;rw [hn,hk];simp only;rw [if_neg (by show¬((3:Int)=5);omega),hp];simp only;rw [if_pos trivial];rfl
 have hs:IsW (yY (Go.Proofs.YtofppfoioodblaaGreatDoor.setNode V j m') (ji 4 j i q b (le8 0))) (ns.set j m') ss ld (ls++ [⟨4,j,i,q,b,le8 0⟩]) tr:=(hV.setNode j m').send ⟨4,j,i,q,b,le8 0⟩ ⟨by show 4<=7;omega,hj,hi,hq2,hb,by show(le8 0).length<=4084;decide⟩ (by omega);unfold y7;rw [show(xw W 0).1=_ from ht];have ht2:jt V (⟨3,i,j,q,b,[]⟩:vr).dst ((⟨3,i,j,q,b,[]⟩:vr).kind:Int) ((⟨3,i,j,q,b,[]⟩:vr).src:Int) ((⟨3,i,j,q,b,[]⟩:vr).inst:Int) b []=yY (Go.Proofs.YtofppfoioodblaaGreatDoor.setNode V j m') (ji 4 j i q b (le8 0)):=hr;rw [ht2,ZC (by rw [hs.seats];exact hq)];exact hs
end
section
open Go
variable {W:zf}{ns:List zp}{ss:List jW}{ld:List (Int×j8)}{ls:List vr}{tr:List JP}
theorem IsW.accept {i j q b:Nat}{x:List UInt8}{m m':zp}(h:IsW W ns ss ld (⟨5,i,j,q,b,x⟩::ls) tr)(hq:yR ss)(hi:i<16)(hj:j<16)(hq2:q<4294967296)(hb:b<18446744073709551616)(hx:x.length<=4084)(hm:ns[j]?=some m)(hup:m.down=false)
 (hk:zD (q:Int) m.pax.known=none) (hp:yE m q b x=(m',0)) (hl:ls.length<999):IsW (y7 W) (ns.set j m') ss ld (ls++ [⟨6,j,i,q,b,[]⟩]) tr:=by
 obtain⟨V,hV,ht⟩:=h.take ⟨by show 5<=7;omega,hi,hj,hq2,hb,hx⟩ (m:=m) hm hup;have hn:zr V j=m:=by rw [hV.node,hm];rfl
 have hr:jt V j 5 i q b x=yY (Go.Proofs.YtofppfoioodblaaGreatDoor.setNode V j m') (ji 6 j i q b []):=by
  unfold jt;rw [if_pos (.inr rfl)];unfold yO;rw [hn,hk];simp only;rw [if_pos (show(ji 5 i j q b x).kind=5 from rfl),hp];simp only;rw [if_pos trivial];rfl
 have hs:IsW (yY (Go.Proofs.YtofppfoioodblaaGreatDoor.setNode V j m') (ji 6 j i q b [])) (ns.set j m') ss ld (ls++ [⟨6,j,i,q,b,[]⟩]) tr:=(hV.setNode j m').send ⟨6,j,i,q,b,[]⟩ ⟨by show 6<=7;omega,hj,hi,hq2,hb,by simp⟩ (by omega);unfold y7;rw [show(xw W 0).1=_ from ht];have ht2:jt V (⟨5,i,j,q,b,x⟩:vr).dst ((⟨5,i,j,q,b,x⟩:vr).kind:Int) ((⟨5,i,j,q,b,x⟩:vr).src:Int) ((⟨5,i,j,q,b,x⟩:vr).inst:Int) b x=yY (Go.Proofs.YtofppfoioodblaaGreatDoor.setNode V j m') (ji 6 j i q b []):=hr;rw [ht2,ZC (by rw [hs.seats];exact hq)];exact hs
theorem IsW.counted {l:vr}{m:zp}{ns':List zp}{ld':List (Int×j8)}{ls':List vr}(h:IsW W ns ss ld (l::ls) tr)(hq:yR ss)(hl:l.ok 16)(hm:ns[l.dst]?=some m)(hup:m.down=false)
 (hr:∀V,IsW V ns ss ld ls tr->IsW (jt V l.dst l.kind l.src l.inst l.ballot l.more) ns' ss ld' ls' tr):IsW (y7 W) ns' ss ld' ls' tr:=by
 obtain⟨V,hV,ht⟩:=h.take hl hm hup;have hs:=hr V hV;unfold y7;rw [show(xw W 0).1=_ from ht,ZC (by rw [hs.seats];exact hq)];exact hs
theorem IsW.setLeads(h:IsW W ns ss ld ls tr)(ld':List (Int×j8)):IsW {W with leads:=ld'} ns ss ld' ls tr:=⟨h.nodes,h.seats,rfl,h.notes,h.hurt,h.trace⟩
end
section
open Go
variable {W:zf}{ns:List zp}{ss:List jW}{ld:List (Int×j8)}{ls:List vr}{tr:List JP}
theorem zjr:le8 0=[0,0,0,0,0,0,0,0]:=rfl
def yl(l:j8)(j b:Nat):j8:={l with promised:=l.promised.set j true,promises:=l.promises++ [(b,0,[])] }
theorem J0 {i j q b:Nat}{l:j8}(hV:IsW W ns ss ld ls tr)(hl:zD (i:Int) ld=some l)(h1:l.inst=(q:Int))(h2:l.ballot=b)(h3:l.promised[j]?.getD false=false)(h4:l.asked=false):
 countPromise W i j q b (le8 0)=(if 2*(yl l j b).promises.length<=ns.length then {W with leads:=put (i:Int) (yl l j b) W.leads}
  else if(qI ns.length (yl l j b).promises l.value).2≠0 then {W with leads:=put (i:Int) (yl l j b) W.leads}
  else j0 {W with leads:=put (i:Int) {yl l j b with asked:=true,value:=(qI ns.length (yl l j b).promises l.value).1} W.leads} 5 i q b (qI ns.length (yl l j b).promises l.value).1):=by
 unfold countPromise;rw [hV.leads,hl];simp only;rw [if_neg (by rw [h1,h2,h3,h4,zjr];simp)];rw [hV.nodes];rfl
theorem J1 {i j q b:Nat}{l:j8}{more:List UInt8}(hV:IsW W ns ss ld ls tr)(hl:zD (i:Int) ld=some l)(h4:l.asked=true):countPromise W i j q b more=W:=by
 unfold countPromise;rw [hV.leads,hl];simp only;rw [if_pos (.inr (.inr (.inl (by simpa using h4))))]
def J2(l:j8)(j:Nat):j8:={l with voted:=l.voted.set j true,votes:=l.votes+1}
theorem Qy {i j q b:Nat}{l:j8}(hV:IsW W ns ss ld ls tr)(hl:zD (i:Int) ld=some l)(h1:l.inst=(q:Int))(h2:l.ballot=b)(h3:l.voted[j]?.getD false=false)(h4:l.told=false):
 countVote W i j q b=(if 2*(J2 l j).votes<=ns.length then {W with leads:=put (i:Int) (J2 l j) W.leads} else j0 {W with leads:=put (i:Int) {J2 l j with told:=true} W.leads} 7 i q b l.value):=by
 unfold countVote;rw [hV.leads,hl];simp only;rw [if_neg (by rw [h1,h2,h3,h4];simp)];rw [hV.nodes];rfl
theorem Xw {i j q b:Nat}{l:j8}(hV:IsW W ns ss ld ls tr)(hl:zD (i:Int) ld=some l)(h4:l.told=true):countVote W i j q b=W:=by
 unfold countVote;rw [hV.leads,hl];simp only;rw [if_pos (.inr (.inr (.inl (by simpa using h4))))]
theorem zjs(n:Nat)(ps:List jl)(own:List UInt8)(hn:ps.length<=n)(hm:n<2*ps.length)(hp:∀v∈ps,∃b,v=(b,0,[]))(ho:own.length<=4000):qI n ps own=(own,0):=by
 unfold qI;rw [if_neg (by omega)]
 have hall:ps.all j7=true:=by
  rw [List.all_eq_true];intro v hv;obtain⟨b,rfl⟩:=hp v hv;simp [j7]
 rw [if_neg (by rw [hall];simp;omega)]
 have hf:∀(l:List jl)(x:jl),(∀v∈l,∃b,v=(b,0,[]))->l.foldl (λ(b:jl) v=>if b.2.1<v.2.1 then v else b) x=x:=by
  intro l
  induction l with
  |nil=>intro x _;rfl
  |cons v l ih=>
   intro x h;obtain⟨b,hv⟩:=h v (List.mem_cons_self ..);rw [List.foldl_cons,hv,if_neg (by simp)];exact ih x (λv hv=>h v (U7 _ hv))
 rw [hf ps _ hp]
end
section
open Go
def xh(ss:List jW)(j:Nat):Prop:=∀i:Nat,i≠j->(ss[i]?.getD yV).stale=false/\(ss[i]?.getD yV).lent=false
theorem zaw(w:zf)(d:Bool)(j i:Nat)(h:i≠j):(tellOne w d j).seats[i]?=w.seats[i]?:=by
 unfold tellOne;simp only
 split
 ·split
  ·show(w.seats.set j _)[i]?=_
   rw [List.getElem?_set_ne (Ne.symm h)]
  ·show(w.seats.set j _)[i]?=_
   rw [List.getElem?_set_ne (Ne.symm h)]
 ·rfl
theorem Xx {w:zf}{j:Nat}(h:xh w.seats j)(d:Bool)(i:Nat)(hi:i≠j):tellOne w d i=w:=by
 have h1:=h i hi;unfold tellOne;simp only;rw [show jg w i=w.seats[i]?.getD yV from rfl,h1.1,h1.2];simp
theorem xh.tell {w:zf}{j:Nat}(h:xh w.seats j)(d:Bool):xh (tellOne w d j).seats j:=λi hi=>by rw [zaw w d j i hi];exact h i hi
theorem zf2 {w:zf}{j:Nat}(h:xh w.seats j)(d:Bool):∀(l:List Nat),j∉l->l.foldl (λw i=>tellOne w d i) w=w:=by
 intro l
 induction l with
 |nil=>intro _;rfl
 |cons i l ih=>
  intro hj;rw [List.foldl_cons,Xx h d i (λe=>hj (by rw [e];exact List.mem_cons_self ..))];exact ih (λe=>hj (U7 _ e))
theorem zb3 {w:zf}{j:Nat}(h:xh w.seats j)(d:Bool):∀(l:List Nat),l.Nodup->j∈l->l.foldl (λw i=>tellOne w d i) w=tellOne w d j:=by
 intro l
 induction l with
 |nil=>intro _ hj;cases hj
 |cons i l ih=>
  intro hn hj;rw [List.foldl_cons];obtain⟨hn1,hn2⟩:=List.nodup_cons.1 hn
  by_cases hij:i=j
  ·subst hij
   exact zf2 (h.tell d) d l hn1
  ·rw [Xx h d i hij]
   rcases List.mem_cons.1 hj with e|e
   ·exact absurd e.symm hij
   ·exact ih hn2 e
theorem zjt {w:zf}{j:Nat}(h:xh w.seats j)(hj:j<w.nodes.length):vZ w=tellOne (tellOne w false j) true j:=by
 unfold vZ;have hr:(List.range w.nodes.length).Nodup:=List.nodup_range;rw [zb3 h false _ hr (List.mem_range.2 hj),zb3 (h.tell false) true _ hr (List.mem_range.2 hj)]
variable {W:zf}{ns:List zp}{ss:List jW}{ld:List (Int×j8)}{ls:List vr}{tr:List JP}
def XY(s:jW)(m:zp):jW:={s with accepted:=max s.accepted m.acc.length,delivered:=max s.delivered m.loc.log.length,stale:=false}
def zax(s:jW)(j:Nat)(m:zp):List JP:=(m.acc.drop s.accepted).map (λx=>(1,(j:Int),x))++(m.loc.log.drop s.delivered).map (λx=>(3,(j:Int),x))
theorem Qz {V:zf}{j:Nat}{s:jW}{m:zp}(hV:IsW V ns ss ld ls tr)(hq:xh ss j)(hj:j<ns.length)(hs:ss[j]?=some s)(hst:s.stale=true)(hm:ns[j]?=some m):
 IsW (vZ V) ns (ss.set j (XY s m)) ld ls (tr++zax s j m):=by
 have hjs:j<ss.length:=(N6.1 hs).1;rw [zjt (j:=j) (by rw [hV.seats];exact hq) (by rw [hV.nodes];exact hj)]
 have h1:tellOne V false j={setSeat V j {s with accepted:=max s.accepted m.acc.length} with trace:=V.trace++(m.acc.drop s.accepted).map λx=>(1,(j:Int),x)} :=by
  unfold tellOne;simp only;rw [hV.seat,hs,hV.node,hm];simp [hst]
 rw [h1]
 have h2:jg ({setSeat V j {s with accepted:=max s.accepted m.acc.length} with trace:=V.trace++(m.acc.drop s.accepted).map λx=>(1,(j:Int),x)} :zf) j={s with accepted:=max s.accepted m.acc.length} :=by
  show(V.seats.set j _)[j]?.getD yV=_
  rw [hV.seats,List.getElem?_set_self hjs];rfl
 have h3:zr ({setSeat V j {s with accepted:=max s.accepted m.acc.length} with trace:=V.trace++(m.acc.drop s.accepted).map λx=>(1,(j:Int),x)} :zf) j=m:=by
  show V.nodes[j]?.getD _=m
  rw [hV.nodes,hm];rfl
 unfold tellOne;simp only;rw [h2,h3];rw [if_pos (by simp [hst]),if_pos trivial];refine⟨hV.nodes,?_,hV.leads,hV.notes,hV.hurt,?_⟩
 ·show(V.seats.set j _).set j _=_
  rw [hV.seats,List.set_set];rfl
 ·show(V.trace++_)++_=_
  rw [hV.trace,List.append_assoc];rfl
theorem IsW.decided {i j q b:Nat}{x:List UInt8}{m:zp}{s:jW}(h:IsW W ns ss ld (⟨7,i,j,q,b,x⟩::ls) tr)(hq:yR ss)(hi:i<16)(hj:j<16)(hq2:q<4294967296)(hb:b<18446744073709551616)(hx:x.length<=4084)(hm:ns[j]?=some m)(hs:ss[j]?=some s)(hup:m.down=false):
 IsW (y7 W) (ns.set j (ja m q x).1) (ss.set j (XY s (ja m q x).1)) ld ls (tr++zax s j (ja m q x).1):=by
 obtain⟨V,hV,ht⟩:=h.take ⟨by show 7<=7;omega,hi,hj,hq2,hb,hx⟩ (m:=m) hm hup;have hn:zr V j=m:=by rw [hV.node,hm];rfl
 have hjn:j<ns.length:=(N6.1 hm).1;have hjs:j<ss.length:=(N6.1 hs).1
 have hr:jt V j 7 i q b x=Go.Proofs.YtofppfoioodblaaGreatDoor.setNode (xm V j) j (ja m q x).1:=by
  unfold jt;rw [if_neg (by omega),if_neg (by omega),if_neg (by omega),if_pos rfl,hn]
 have hV2:IsW (Go.Proofs.YtofppfoioodblaaGreatDoor.setNode (xm V j) j (ja m q x).1) (ns.set j (ja m q x).1) (ss.set j {s with stale:=true}) ld ls tr:=by
  refine⟨by show V.nodes.set j _=_;rw [hV.nodes],?_,hV.leads,hV.notes,hV.hurt,hV.trace⟩
  show V.seats.set j {jg V j with stale:=true} =_
  rw [hV.seat,hs,hV.seats];rfl
 have hbut:xh (ss.set j {s with stale:=true}) j:=λk hk=>by rw [List.getElem?_set_ne (Ne.symm hk)];exact hq k
 have hT:=Qz hV2 hbut (by simpa using hjn) (List.getElem?_set_self hjs) rfl (List.getElem?_set_self hjn);unfold y7;rw [show(xw W 0).1=_ from ht];have ht2:jt V (⟨7,i,j,q,b,x⟩:vr).dst ((⟨7,i,j,q,b,x⟩:vr).kind:Int) ((⟨7,i,j,q,b,x⟩:vr).src:Int) ((⟨7,i,j,q,b,x⟩:vr).inst:Int) b x=Go.Proofs.YtofppfoioodblaaGreatDoor.setNode (xm V j) j (ja m q x).1:=hr;rw [ht2];rw [List.set_set] at hT;exact hT
end
section
open Go
def jh:Nat->zf->zf
 |0,w=>w
 |k+1,w=>jh k (y7 w)
theorem qv:∀(a b:Nat)(w:zf),jh (a+b) w=jh b (jh a w)
 |0,b,w=>by rw [Nat.zero_add];rfl
 |a+1,b,w=>by rw [Nat.succ_add];exact qv a b (y7 w)
variable {ss:List jW}{ld:List (Int×j8)}{tr:List JP}
theorem zen {i q b:Nat}(hq:yR ss)(hi:i<16)(hq2:q<4294967296)(hb:b<18446744073709551616):∀(js:List Nat)(W:zf)(ns:List zp)(ls:List vr),js.Nodup->(∀j∈js,j<16/\∃m,ns[j]?=some m/\m.down=false/\zD (q:Int) m.pax.known=none/\(zA m q b).2=((b,0,[]),0))->ls.length+js.length<999->
 IsW W ns ss ld (js.map (λj=>⟨3,i,j,q,b,[]⟩)++ls) tr->
 IsW (jh js.length W) (js.foldl (λns j=>ns.modify j (λm=>(zA m q b).1)) ns) ss ld (ls++js.map (λj=>⟨4,j,i,q,b,le8 0⟩)) tr
 | [],W,ns,ls,_,_,_,h=>by simpa [jh] using h
 |j::js,W,ns,ls,hn,hm,hl,h=>by
  obtain⟨hj,m,h1,h2,h3,h4⟩:=hm j (List.mem_cons_self ..);obtain⟨hn1,hn2⟩:=List.nodup_cons.1 hn;have hs:=IsW.prepare (i:=i) (j:=j) (q:=q) (b:=b) (m:=m) (m':=(zA m q b).1) (ls:=js.map (λj=>⟨3,i,j,q,b,[]⟩)++ls) h hq hi hj hq2 hb h1 h2 h3 (by rw [← h4]) (by simp at hl⊢;omega)
  have hset:ns.modify j (λm=>(zA m q b).1)=ns.set j (zA m q b).1:=by
   apply List.ext_getElem?
   intro k;rw [List.getElem?_modify]
   by_cases hk:j=k
   ·subst hk
    rw [List.getElem?_set_self (N6.1 h1).1,h1];simp
   ·rw [List.getElem?_set_ne hk];simp [hk]
  have ih:=zen hq hi hq2 hb js (y7 W) (ns.set j (zA m q b).1) (ls++ [⟨4,j,i,q,b,le8 0⟩]) hn2 (λk hk=>by
   obtain⟨g0,g⟩:=hm k (U7 _ hk);refine⟨g0,?_⟩;rw [List.getElem?_set_ne (λe=>hn1 (by rw [e];exact hk))]
   exact g) (by simp at hl⊢;omega) (by simpa [List.append_assoc] using hs)
  rw [List.foldl_cons,hset,List.length_cons]
  show IsW (jh js.length (y7 W)) _ _ _ _ _
  simpa [List.append_assoc] using ih
theorem zhX {i q b:Nat}{x:List UInt8}(hq:yR ss)(hi:i<16)(hq2:q<4294967296)(hb:b<18446744073709551616)(hx:x.length<=4084):∀(js:List Nat)(W:zf)(ns:List zp)(ls:List vr),js.Nodup->(∀j∈js,j<16/\∃m,ns[j]?=some m/\m.down=false/\zD (q:Int) m.pax.known=none/\(yE m q b x).2=0)->ls.length+js.length<999->
 IsW W ns ss ld (js.map (λj=>⟨5,i,j,q,b,x⟩)++ls) tr->
 IsW (jh js.length W) (js.foldl (λns j=>ns.modify j (λm=>(yE m q b x).1)) ns) ss ld (ls++js.map (λj=>⟨6,j,i,q,b,[]⟩)) tr
 | [],W,ns,ls,_,_,_,h=>by simpa [jh] using h
 |j::js,W,ns,ls,hn,hm,hl,h=>by
  obtain⟨hj,m,h1,h2,h3,h4⟩:=hm j (List.mem_cons_self ..);obtain⟨hn1,hn2⟩:=List.nodup_cons.1 hn;have hs:=IsW.accept (i:=i) (j:=j) (q:=q) (b:=b) (m:=m) (m':=(yE m q b x).1) (ls:=js.map (λj=>⟨5,i,j,q,b,x⟩)++ls) h hq hi hj hq2 hb hx h1 h2 h3 (by rw [← h4]) (by simp at hl⊢;omega)
  have hset:ns.modify j (λm=>(yE m q b x).1)=ns.set j (yE m q b x).1:=by
   apply List.ext_getElem?
   intro k;rw [List.getElem?_modify]
   by_cases hk:j=k
   ·subst hk
    rw [List.getElem?_set_self (N6.1 h1).1,h1];simp
   ·rw [List.getElem?_set_ne hk];simp [hk]
  have ih:=zhX hq hi hq2 hb hx js (y7 W) (ns.set j (yE m q b x).1) (ls++ [⟨6,j,i,q,b,[]⟩]) hn2 (λk hk=>by
   obtain⟨g0,g⟩:=hm k (U7 _ hk);refine⟨g0,?_⟩;rw [List.getElem?_set_ne (λe=>hn1 (by rw [e];exact hk))]
   exact g) (by simp at hl⊢;omega) (by simpa [List.append_assoc] using hs)
  rw [List.foldl_cons,hset,List.length_cons]
  show IsW (jh js.length (y7 W)) _ _ _ _ _
  simpa [List.append_assoc] using ih
end
section
open Go
def vM(q:Int)(x:List UInt8)(A:List zp×List jW×List JP)(j:Nat):List zp×List jW×List JP:=
 match A.1[j]?,A.2.1[j]? with
 |some m,some s=>(A.1.set j (ja m q x).1,A.2.1.set j (XY s (ja m q x).1),A.2.2++zax s j (ja m q x).1)
 |_,_=>A
variable {ld:List (Int×j8)}
theorem QA {ss:List jW}(hq:yR ss)(j:Nat){s:jW}(hs:ss[j]?=some s)(m:zp):yR (ss.set j (XY s m)):=λi=>by
 by_cases hij:j=i
 ·subst hij
  rw [List.getElem?_set_self (N6.1 hs).1];have:=(hq j).2;rw [hs] at this;exact⟨rfl,this⟩
 ·rw [List.getElem?_set_ne hij];exact hq i
theorem zeo {i q b:Nat}{x:List UInt8}(hi:i<16)(hq2:q<4294967296)(hb:b<18446744073709551616)(hx:x.length<=4084):∀(js:List Nat)(W:zf)(A:List zp×List jW×List JP)(ls:List vr),yR A.2.1->js.Nodup->(∀j∈js,j<16/\∃m s,A.1[j]?=some m/\A.2.1[j]?=some s/\m.down=false)->
 IsW W A.1 A.2.1 ld (js.map (λj=>⟨7,i,j,q,b,x⟩)++ls) A.2.2->
 IsW (jh js.length W) (js.foldl (vM q x) A).1 (js.foldl (vM q x) A).2.1 ld ls (js.foldl (vM q x) A).2.2/\yR (js.foldl (vM q x) A).2.1
 | [],W,A,ls,hq,_,_,h=>⟨by simpa [jh] using h,hq⟩
 |j::js,W,A,ls,hq,hn,hm,h=>by
  obtain⟨hj,m,s,h1,h2,h3⟩:=hm j (List.mem_cons_self ..);obtain⟨hn1,hn2⟩:=List.nodup_cons.1 hn;have hs:=IsW.decided (i:=i) (j:=j) (q:=q) (b:=b) (x:=x) (m:=m) (s:=s) (ls:=js.map (λj=>⟨7,i,j,q,b,x⟩)++ls) h hq hi hj hq2 hb hx h1 h2 h3;have hd:vM q x A j=(A.1.set j (ja m q x).1,A.2.1.set j (XY s (ja m q x).1),A.2.2++zax s j (ja m q x).1):=by unfold vM;rw [h1,h2]
  rw [List.foldl_cons,hd,List.length_cons];refine zeo hi hq2 hb hx js (y7 W) _ ls (QA hq j h2 _) hn2 (λk hk=>?_) hs;obtain⟨g0,m',s',g1,g2,g3⟩:=hm k (U7 _ hk);have hne:j≠k:=λe=>hn1 (by rw [e];exact hk)
  exact⟨g0,m',s',by show(A.1.set j _)[k]?=_;rw [List.getElem?_set_ne hne];exact g1,by show(A.2.1.set j _)[k]?=_;rw [List.getElem?_set_ne hne];exact g2,g3⟩
end
open Go
variable {ns:List zp}{ss:List jW}{tr:List JP}
theorem j1 {K V:Type} [DecidableEq K](i:K)(x:V):∀l:List (K×V),zD i (put i x l)=some x
 | []=>by unfold put zD;rw [if_pos rfl]
 |(a,b)::l=>by
  unfold put
  by_cases h:i=a
  ·rw [if_pos h];subst h;unfold zD;rw [if_pos rfl]
  ·rw [if_neg h];unfold zD;rw [if_neg h];exact j1 i x l
theorem J3 {i q b:Nat}{m:zp}(hq:yR ss)(hi:i<16)(hq2:q<4294967296)(hb:b<18446744073709551616)(hm:ns[i]?=some m)(hup:m.down=false):
 ∀(js:List Nat)(W:zf)(ld:List (Int×j8)) (l:j8) (ls:List vr),zD (i:Int) ld=some l->l.asked=true->(∀j∈js,j<16)->
 IsW W ns ss ld (js.map (λj=>⟨4,j,i,q,b,le8 0⟩)++ls) tr->IsW (jh js.length W) ns ss ld ls tr
 | [],W,ld,l,ls,_,_,_,h=>by simpa [jh] using h
 |j::js,W,ld,l,ls,hl,ha,hj,h=>by
  have hj1:=hj j (List.mem_cons_self ..)
  have h1:IsW (y7 W) ns ss ld (js.map (λj=>⟨4,j,i,q,b,le8 0⟩)++ls) tr:=by
   refine IsW.counted (l:=⟨4,j,i,q,b,le8 0⟩) (m:=m) h hq ⟨by show 4<=7;omega,hj1,hi,hq2,hb,by show(le8 0).length<=4084;decide⟩ hm hup (λV hV=>?_)
   have hr:jt V i (4:Nat) (j:Nat) (q:Nat) b (le8 0)=countPromise V i j q b (le8 0):=by
    unfold jt;rw [if_neg (by omega),if_pos (by omega)];rfl
   rw [show jt V (⟨4,j,i,q,b,le8 0⟩:vr).dst ((⟨4,j,i,q,b,le8 0⟩:vr).kind:Int) ((⟨4,j,i,q,b,le8 0⟩:vr).src:Int) ((⟨4,j,i,q,b,le8 0⟩:vr).inst:Int) b (le8 0)=_ from hr,J1 hV hl ha];exact hV
  exact J3 hq hi hq2 hb hm hup js (y7 W) ld l ls hl ha (λk hk=>hj k (U7 _ hk)) h1
theorem promises {i q b:Nat}{x:List UInt8}{m:zp}(hq:yR ss)(hi:i<16)(hq2:q<4294967296)(hb:b<18446744073709551616)(hx:x.length<=4000)(hn:ns.length<=16)(hm:ns[i]?=some m)(hup:m.down=false):
 ∀(js:List Nat)(W:zf)(ld:List (Int×j8)) (l:j8) (ls:List vr),zD (i:Int) ld=some l->l.inst=(q:Int)->l.ballot=b->l.value=x->l.asked=false->
 l.promises.length+js.length=ns.length->2*l.promises.length<=ns.length->1<=ns.length->(∀v∈l.promises,∃b,v=(b,0,[]))->(∀k∈js,l.promised[k]?.getD false=false)->js.Nodup->(∀j∈js,j<16)->ls.length+js.length+ns.length<999->
 IsW W ns ss ld (js.map (λj=>⟨4,j,i,q,b,le8 0⟩)++ls) tr->
 ∃ld' l',zD (i:Int) ld'=some l'/\l'.inst=(q:Int)/\l'.ballot=b/\l'.value=x/\l'.told=l.told/\l'.voted=l.voted/\l'.votes=l.votes/\
  IsW (jh js.length W) ns ss ld' (ls++(List.range ns.length).map (λj=>⟨5,i,j,q,b,x⟩)) tr
 | [],W,ld,l,ls,hl,h1,h2,h3,h4,h5,h6,h7,_,_,_,_,_,h=>by simp at h5;omega
 |j::js,W,ld,l,ls,hl,h1,h2,h3,h4,h5,h6,h7,hps,hpr,hnd,hj,hlen,h=>by
  have hj1:=hj j (List.mem_cons_self ..);obtain⟨hn1,hn2⟩:=List.nodup_cons.1 hnd;have hp1:=hpr j (List.mem_cons_self ..);simp only [List.length_cons] at h5 hlen;have hplen:(yl l j b).promises.length=l.promises.length+1:=by show(l.promises++ [_]).length=_;simp
  have hr:∀V,jt V i (4:Nat) (j:Nat) (q:Nat) b (le8 0)=countPromise V i j q b (le8 0):=λV=>by
   unfold jt;rw [if_neg (by omega),if_pos (by omega)];rfl
  have hok:vr.ok 16 ⟨4,j,i,q,b,le8 0⟩:=⟨by show 4<=7;omega,hj1,hi,hq2,hb,by show(le8 0).length<=4084;decide⟩
  by_cases hmaj:2*(l.promises.length+1)<=ns.length
  ·have hs:IsW (y7 W) ns ss (put (i:Int) (yl l j b) ld) (js.map (λj=>⟨4,j,i,q,b,le8 0⟩)++ls) tr:=by
    refine IsW.counted (l:=⟨4,j,i,q,b,le8 0⟩) (m:=m) h hq hok hm hup (λV hV=>?_)
    rw [show jt V (⟨4,j,i,q,b,le8 0⟩:vr).dst ((⟨4,j,i,q,b,le8 0⟩:vr).kind:Int) ((⟨4,j,i,q,b,le8 0⟩:vr).src:Int) ((⟨4,j,i,q,b,le8 0⟩:vr).inst:Int) b (le8 0)=_ from hr V,
     J0 hV hl h1 h2 hp1 h4,if_pos (by rw [hplen];exact hmaj),hV.leads]
    exact hV.setLeads _
   obtain⟨ld',l',g⟩:=promises hq hi hq2 hb hx hn hm hup js (y7 W) (put (i:Int) (yl l j b) ld) (yl l j b) ls (j1 _ _ _) h1 h2 h3 h4 (by rw [hplen];omega) (by rw [hplen];exact hmaj) h7
    (λv hv=>by
     rcases List.mem_append.1 (show v∈l.promises++ [(b,0,[])] from hv)with hv|hv
     ·exact hps v hv
     ·exact⟨b,by simpa using hv⟩)
    (λk hk=>by
     show(l.promised.set j true)[k]?.getD false=false
     rw [List.getElem?_set_ne (λe=>hn1 (by rw [e];exact hk))]
     exact hpr k (U7 _ hk)) hn2 (λk hk=>hj k (U7 _ hk)) (by omega) hs
   exact⟨ld',l',g⟩
  ·have hown:=zjs ns.length (yl l j b).promises l.value (by rw [hplen];omega) (by rw [hplen];omega) (λv hv=>by
    rcases List.mem_append.1 (show v∈l.promises++ [(b,0,[])] from hv)with hv|hv
    ·exact hps v hv
    ·exact⟨b,by simpa using hv⟩) (by rw [h3];exact hx)
   have hs:IsW (y7 W) ns ss (put (i:Int) {yl l j b with asked:=true,value:=x} ld) (js.map (λj=>⟨4,j,i,q,b,le8 0⟩)++(ls++(List.range ns.length).map (λj=>⟨5,i,j,q,b,x⟩))) tr:=by
    refine IsW.counted (l:=⟨4,j,i,q,b,le8 0⟩) (m:=m) h hq hok hm hup (λV hV=>?_)
    rw [show jt V (⟨4,j,i,q,b,le8 0⟩:vr).dst ((⟨4,j,i,q,b,le8 0⟩:vr).kind:Int) ((⟨4,j,i,q,b,le8 0⟩:vr).src:Int) ((⟨4,j,i,q,b,le8 0⟩:vr).inst:Int) b (le8 0)=_ from hr V,
     J0 hV hl h1 h2 hp1 h4,if_neg (by rw [hplen];exact hmaj),hown,if_neg (by simp),hV.leads,h3,← List.append_assoc]
    exact(hV.setLeads _).sendAll 5 i q b x (λk hk=>⟨by show 5<=7;omega,hi,by show k<16;omega,hq2,hb,by show x.length<=4084;omega⟩) (by show(js.map (λj=>(⟨4,j,i,q,b,le8 0⟩:vr))++ls).length+ns.length<=1000;rw [N1,List.length_map];omega)
   have hL:=J3 hq hi hq2 hb hm hup js (y7 W) _ _ _ (j1 _ _ _) rfl (λk hk=>hj k (U7 _ hk)) hs;exact⟨_,{yl l j b with asked:=true,value:=x},j1 _ _ _,h1,h2,rfl,rfl,rfl,rfl,hL⟩
theorem QB {i q b:Nat}{m:zp}(hq:yR ss)(hi:i<16)(hq2:q<4294967296)(hb:b<18446744073709551616)(hm:ns[i]?=some m)(hup:m.down=false):
 ∀(js:List Nat)(W:zf)(ld:List (Int×j8)) (l:j8) (ls:List vr),zD (i:Int) ld=some l->l.told=true->(∀j∈js,j<16)->
 IsW W ns ss ld (js.map (λj=>⟨6,j,i,q,b,[]⟩)++ls) tr->IsW (jh js.length W) ns ss ld ls tr
 | [],W,ld,l,ls,_,_,_,h=>by simpa [jh] using h
 |j::js,W,ld,l,ls,hl,ha,hj,h=>by
  have hj1:=hj j (List.mem_cons_self ..)
  have h1:IsW (y7 W) ns ss ld (js.map (λj=>⟨6,j,i,q,b,[]⟩)++ls) tr:=by
   refine IsW.counted (l:=⟨6,j,i,q,b,[]⟩) (m:=m) h hq ⟨by show 6<=7;omega,hj1,hi,hq2,hb,by simp⟩ hm hup (λV hV=>?_)
   have hr:jt V i (6:Nat) (j:Nat) (q:Nat) b []=countVote V i j q b:=by
    unfold jt;rw [if_neg (by omega),if_neg (by omega),if_pos (by omega)];rfl
   rw [show jt V (⟨6,j,i,q,b,[]⟩:vr).dst ((⟨6,j,i,q,b,[]⟩:vr).kind:Int) ((⟨6,j,i,q,b,[]⟩:vr).src:Int) ((⟨6,j,i,q,b,[]⟩:vr).inst:Int) b []=_ from hr,Xw hV hl ha];exact hV
  exact QB hq hi hq2 hb hm hup js (y7 W) ld l ls hl ha (λk hk=>hj k (U7 _ hk)) h1
theorem zep {i q b:Nat}{x:List UInt8}{m:zp}(hq:yR ss)(hi:i<16)(hq2:q<4294967296)(hb:b<18446744073709551616)(hx:x.length<=4000)(hn:ns.length<=16)(hm:ns[i]?=some m)(hup:m.down=false):
 ∀(js:List Nat)(W:zf)(ld:List (Int×j8)) (l:j8) (ls:List vr),zD (i:Int) ld=some l->l.inst=(q:Int)->l.ballot=b->l.value=x->l.told=false->
 l.votes+js.length=ns.length->2*l.votes<=ns.length->1<=ns.length->(∀k∈js,l.voted[k]?.getD false=false)->js.Nodup->(∀j∈js,j<16)->ls.length+js.length+ns.length<999->
 IsW W ns ss ld (js.map (λj=>⟨6,j,i,q,b,[]⟩)++ls) tr->
 ∃ld',IsW (jh js.length W) ns ss ld' (ls++(List.range ns.length).map (λj=>⟨7,i,j,q,b,x⟩)) tr
 | [],W,ld,l,ls,hl,h1,h2,h3,h4,h5,h6,h7,_,_,_,_,h=>by simp at h5;omega
 |j::js,W,ld,l,ls,hl,h1,h2,h3,h4,h5,h6,h7,hpr,hnd,hj,hlen,h=>by
  have hj1:=hj j (List.mem_cons_self ..);obtain⟨hn1,hn2⟩:=List.nodup_cons.1 hnd;have hp1:=hpr j (List.mem_cons_self ..);simp only [List.length_cons] at h5 hlen
  have hr:∀V,jt V i (6:Nat) (j:Nat) (q:Nat) b []=countVote V i j q b:=λV=>by
   unfold jt;rw [if_neg (by omega),if_neg (by omega),if_pos (by omega)];rfl
  have hok:vr.ok 16 ⟨6,j,i,q,b,[]⟩:=⟨by show 6<=7;omega,hj1,hi,hq2,hb,by simp⟩
  by_cases hmaj:2*(l.votes+1)<=ns.length
  ·have hs:IsW (y7 W) ns ss (put (i:Int) (J2 l j) ld) (js.map (λj=>⟨6,j,i,q,b,[]⟩)++ls) tr:=by
    refine IsW.counted (l:=⟨6,j,i,q,b,[]⟩) (m:=m) h hq hok hm hup (λV hV=>?_)
    rw [show jt V (⟨6,j,i,q,b,[]⟩:vr).dst ((⟨6,j,i,q,b,[]⟩:vr).kind:Int) ((⟨6,j,i,q,b,[]⟩:vr).src:Int) ((⟨6,j,i,q,b,[]⟩:vr).inst:Int) b []=_ from hr V,
     Qy hV hl h1 h2 hp1 h4,if_pos (show 2*(J2 l j).votes<=ns.length from hmaj),hV.leads]
    exact hV.setLeads _
   exact zep hq hi hq2 hb hx hn hm hup js (y7 W) (put (i:Int) (J2 l j) ld) (J2 l j) ls (j1 _ _ _) h1 h2 h3 h4 (by show l.votes+1+js.length=_;omega) hmaj h7
    (λk hk=>by
     show(l.voted.set j true)[k]?.getD false=false
     rw [List.getElem?_set_ne (λe=>hn1 (by rw [e];exact hk))]
     exact hpr k (U7 _ hk)) hn2 (λk hk=>hj k (U7 _ hk)) (by omega) hs
  ·have hs:IsW (y7 W) ns ss (put (i:Int) {J2 l j with told:=true} ld) (js.map (λj=>⟨6,j,i,q,b,[]⟩)++(ls++(List.range ns.length).map (λj=>⟨7,i,j,q,b,x⟩))) tr:=by
    refine IsW.counted (l:=⟨6,j,i,q,b,[]⟩) (m:=m) h hq hok hm hup (λV hV=>?_)
    rw [show jt V (⟨6,j,i,q,b,[]⟩:vr).dst ((⟨6,j,i,q,b,[]⟩:vr).kind:Int) ((⟨6,j,i,q,b,[]⟩:vr).src:Int) ((⟨6,j,i,q,b,[]⟩:vr).inst:Int) b []=_ from hr V,
     Qy hV hl h1 h2 hp1 h4,if_neg (show¬2*(J2 l j).votes<=ns.length from hmaj),hV.leads,h3,← List.append_assoc]
    exact(hV.setLeads _).sendAll 7 i q b x (λk hk=>⟨by show 7<=7;omega,hi,by show k<16;omega,hq2,hb,by show x.length<=4084;omega⟩) (by show(js.map (λj=>(⟨6,j,i,q,b,[]⟩:vr))++ls).length+ns.length<=1000;rw [N1,List.length_map];omega)
   exact⟨_,QB hq hi hq2 hb hm hup js (y7 W) _ _ _ (j1 _ _ _) rfl (λk hk=>hj k (U7 _ hk)) hs⟩
