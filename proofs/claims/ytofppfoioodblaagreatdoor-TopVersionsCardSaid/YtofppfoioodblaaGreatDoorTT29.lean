/- PARTS OF THE PROOF. -/
import Derived.Test.YtofppfoioodblaaGreatDoorTT16
import Derived.Test.YtofppfoioodblaaGreatDoorTT28
set_option maxRecDepth 8000
set_option maxHeartbeats 4000000
open Go.Proofs.Tryz
namespace Go.Proofs.YtofppfoioodblaaGreatDoor
open Go Go.RowKit Go.Shelf Go.Extern.Stop Go.Stop Go.Extern
attribute [local go_sem] Oper.semAt_some zv zm
theorem zc6(k:UInt8)(d:List UInt8)(h:0<(bs (k::d)).size):(bs (k::d))[0]=k:=rfl
theorem zc7 {px sb lb pb:Nat}{av:Value}(B:Nat)(n:zp)(t:List Nat)(ow:Own)(r:List UInt8)(hl:r.length<=1000000)(w:World)(hN:zx B px sb lb pb av n t ow w)(hacc:n.acc.length<=200000):
 Calls prog 108 #[.pointer (some ⟨B,0,none⟩),.string (bs r)] w (vL B (yg n r) t ow w (.tuple #[])):=by
 cases r with
 |nil=>
  have t1:(bs []).toList.isEmpty=true:=by rw [yC];rfl
  go_enter func108,ntmps108
  go_wp2;exact bodyPost_ret (results_none rfl _ _ _) rfl ⟨rfl,ow,zq.refl _ _ _,_,_,_,_,_,hN⟩
 |cons k d=>
  have hB:=hN.blk;unfold zz at hB;have e0:=hB.cell;have l0:=hB.lt;have hsz:=zJ (k::d);have t1:(bs (k::d)).toList.isEmpty=false:=by rw [yC];rfl
  have hxd:(bs (k::d)).extract 1 (bs (k::d)).size=bs d:=jk (k::d) 1;have hrp:yg n (k::d)=if k=109/\(jK d).2=0/\(jK d).1.length=1 then {n with acc:=n.acc++(jK d).1} else {n with pax:=yx n.pax (k::d)} :=rfl
  have hx0:=λh=>zc6 k d h
  have hk0:0<(bs (k::d)).size:=by rw [hsz];simp
  have b1:(1:Int)<=((bs (k::d)).size:Int):=by omega
  have hun:=λW=>Ql d (by simp at hl;omega) W
  obtain⟨⟨l,er⟩,hu⟩:∃q,jK d=q:=⟨_,rfl⟩;rw [hu] at hun hrp;unfold Yt at hun;simp only at hun hrp;replace hsz:=hid hsz;replace hun:=hid hun;replace hu:=hid hu;have hpx:=λW hW=>zbr px n.pax (t++ [0]) (by simp) ow (k::d) hl W hW
  unfold Qk at hpx;replace hpx:=hid hpx
  by_cases hk:k=109
  ·by_cases her:er=0
   ·by_cases hll:l.length=1
    ·rw [if_pos ⟨hk,her,hll⟩] at hrp
     rw [hrp];subst hk her;have t4:((l.length:Int)==1)=true:=by simp [hll]
     replace hll:=hid hll;replace hrp:=hid hrp
     go_enter func108,ntmps108
     go_wp2_with fail
     refine(hun.out _).mono ?_;rintro e w1⟨v,rfl,hb1,hrow1,hnew1⟩;have hN1:=(zx.loc B px sb lb pb av n t).below hN hb1;have hS1:=zq.of_below t ow hb1;have hB1:=hB.call hb1;have cB1:=hB1.cell;have lB1:=hB1.lt;have fB1:=hB1.frozen;obtain⟨va,vc,rfl⟩:=hrow1.src.shape;replace hrow1:=hid hrow1;replace hnew1:=hid hnew1;have hlen1:n.acc.length+l.length<=1073741824:=by rw [hll.out];omega
     obtain⟨v',W4,hrun,hrow4,hgr,hown⟩:=zT zcc hN1.row hrow1.out.src (jq l) hlen1 42;obtain⟨na,nn,nc,rfl⟩:=hrow4.shape;obtain⟨aa,ac,rfl⟩:=hN1.row.src.shape;obtain⟨hs4,hN4⟩:=hN1.setAcc l hrow4 hgr hown;have kB4:=hB1.kept (w':=W4) (hgr.block B lB1 (λe=>hN1.row.ne_blk hN1.blk (by decide) e.symm rfl));have cB4:=kB4.cell;have fB4:=kB4.frozen;have lB4:=kB4.lt;replace hrow4:=hid hrow4;replace hown:=hid hown;replace hlen1:=hid hlen1;replace hrun:=hid hrun
     go_wp2_with (at_builtin
                  refine zw rfl _ _ _ rfl rfl rfl hrun.out ?_)
     exact bodyPost_ret (results_none rfl _ _ _) rfl ⟨rfl,_,hS1.trans hs4,_,_,_,_,_,hN4⟩
    ·rw [if_neg (λh=>hll h.2.2)] at hrp
     rw [hrp];subst hk her;have t4:((l.length:Int)==1)=false:=by simp;omega
     replace hll:=hid hll;replace hrp:=hid hrp
     go_enter func108,ntmps108
     go_wp2_with fail
     refine(hun.out _).mono ?_;rintro e w1⟨v,rfl,hb1,hrow1,hnew1⟩;have hN1:=(zx.loc B px sb lb pb av n t).below hN hb1;have hS1:=zq.of_below t ow hb1;have hB1:=hB.call hb1;have cB1:=hB1.cell;have lB1:=hB1.lt;have fB1:=hB1.frozen;obtain⟨va,vc,rfl⟩:=hrow1.src.shape;replace hrow1:=hid hrow1;replace hnew1:=hid hnew1;go_wp2_with fail
     refine(hpx.out _ hN1.pax).mono ?_;rintro e w5⟨vv,rfl,ow5,hs5,h5⟩;have hN5:=hN1.setPax _ hs5 h5;go_wp2;exact bodyPost_ret (results_none rfl _ _ _) rfl ⟨rfl,ow5,hS1.trans (hs5.mono (Sub.child t 0)),_,_,_,_,_,hN5⟩
   ·rw [if_neg (λh=>her h.2.1)] at hrp
    rw [hrp];subst hk;have t4:(er==0)=false:=by simpa using her
    replace her:=hid her;replace hrp:=hid hrp
    go_enter func108,ntmps108
    go_wp2_with fail
    refine(hun.out _).mono ?_;rintro e w1⟨v,rfl,hb1,hrow1,hnew1⟩;have hN1:=(zx.loc B px sb lb pb av n t).below hN hb1;have hS1:=zq.of_below t ow hb1;have hB1:=hB.call hb1;have cB1:=hB1.cell;have lB1:=hB1.lt;have fB1:=hB1.frozen;obtain⟨va,vc,rfl⟩:=hrow1.src.shape;replace hrow1:=hid hrow1;replace hnew1:=hid hnew1;go_wp2_with fail
    refine(hpx.out _ hN1.pax).mono ?_;rintro e w5⟨vv,rfl,ow5,hs5,h5⟩;have hN5:=hN1.setPax _ hs5 h5;go_wp2;exact bodyPost_ret (results_none rfl _ _ _) rfl ⟨rfl,ow5,hS1.trans (hs5.mono (Sub.child t 0)),_,_,_,_,_,hN5⟩
  ·rw [if_neg (λh=>hk h.1)] at hrp
   rw [hrp];have hkn:k.toNat≠109:=λe=>hk (by have h:=UInt8.ofNat_toNat (x:=k);rw [e] at h;exact h.symm)
   have t2:((k.toNat:Int)==109)=false:=by simp;omega
   replace hkn:=hid hkn;replace hk:=hid hk;replace hrp:=hid hrp;have hN1:=hN;have hS1:=zq.refl t ow w
   go_enter func108,ntmps108
   go_wp2_with fail
   refine(hpx.out _ hN1.pax).mono ?_;rintro e w5⟨vv,rfl,ow5,hs5,h5⟩;have hN5:=hN1.setPax _ hs5 h5;go_wp2;exact bodyPost_ret (results_none rfl _ _ _) rfl ⟨rfl,ow5,hS1.trans (hs5.mono (Sub.child t 0)),_,_,_,_,_,hN5⟩
theorem zhp {s b:List UInt8}(h:xA s=some b):b.length<=s.length:=by
 unfold xA at h
 split at h
 ·cases h
 ·split at h
  ·cases h;simp
  ·cases h
theorem zfw(s:List UInt8):(jm s).1.length<=4105:=by
 unfold jm
 split
 ·simp
 ·split
  ·simp
  ·split
   ·simp
   ·rename_i h
    split
    ·simp
    ·split
     ·simp
     ·rename_i b hb
      have:=zhp hb;rw [N7] at this;simp only [U3];omega
theorem Xb:∀(n:Nat)(s:List UInt8),9*(xq n s).1.length<=s.length/\∀x∈(xq n s).1,x.length<=4105
 |0,s=>by simp [xq]
 |n+1,s=>by
  unfold xq
  split
  ·simp
  ·rename_i h
   have h1:=vV s;have h2:=Xb n (s.drop (jm s).2);rw [U3] at h2;refine⟨?_,λx hx=>?_⟩
   ·simp only [List.length_cons];omega
   ·rcases List.mem_cons.1 hx with e|e
    ·rw [e];exact zfw s
    ·exact h2.2 x e
theorem zeb {W:World}{l:List (List UInt8)}{a:Option Addr}{cap:Nat}(h:Src W (.slice a l.length cap) 1 l.length (yD l)){k:Nat}{x:List UInt8}(hx:l[k]?=some x):
 ∃b off,a=some ⟨b,off,none⟩/\W.cell? ⟨b,off+k,none⟩=some (.string (bs x)):=by
 rcases h.2 with⟨h,h0⟩|⟨b,off,cap',h, -,hr⟩
 ·exfalso
  have:l=[]:=by
   cases l with
   |nil=>rfl
   |cons y l=>simp at h
  subst this;simp at hx
 ·cases h
  exact⟨b,off,rfl,hr k _ (by simp [yD,hx])⟩
theorem Qo(n:zp)(s:StD)(l:List (List UInt8)):(l.foldl yg (qa n s)).acc.length<=l.length/\yp (l.foldl yg (qa n s)).pax.known/\(l.foldl yg (qa n s)).loc=zh9 n.version s/\(l.foldl yg (qa n s)).applied=0/\(l.foldl yg (qa n s)).bad=n.bad:=by
 rw [Q3];exact⟨zd5 l,Q4 l,rfl,rfl,rfl⟩
theorem zbx {px sb lb pb:Nat}{av:Value}(a:Addr)(B:Nat)(n:zp)(t:List Nat)(ht:t≠ [])(ow:Own)(w:World)(hN:zx B px sb lb pb av n t ow w)(he:jE w a)(hge:ow 2=[])(hv:known n.version=true)(hlog:n.store.log.length<=1048576):
 Calls prog 62 #[.pointer (some ⟨B,0,none⟩)] w (vL B (yP n (zt n.version)) t ow w (.int .i64 0)):=by
 have hB:=hN.blk;have hn:=Zw w hB;have hbad:=hN.bad;have hst:=Q8 sb n.store (t++ [1]) ow w hN.st (by omega);have hrn:yP n (zt n.version)={(jG ((jn 10001 ((jr n.store).2.foldl yg (qa {n with store:=(jr n.store).1} (zt n.version)))).1.acc.length+1) (jn 10001 ((jr n.store).2.foldl yg (qa {n with store:=(jr n.store).1} (zt n.version)))).1)with down:=false} :=rfl;have hfacts:9*(jr n.store).2.length<=n.store.log.length/\∀x∈(jr n.store).2,x.length<=4105:=Xb _ _;have hall:=λl=>Qo {n with store:=(jr n.store).1} (zt n.version) l
 obtain⟨⟨s',rs⟩,hR⟩:∃q,jr n.store=q:=⟨_,rfl⟩;rw [hR] at hst hrn hfacts hall;unfold Z0 at hst;simp only at hst hrn hfacts hall;rw [hrn];obtain⟨m0,hm0⟩:∃m0,m0=qa {n with store:=s'} (zt n.version):=⟨_,rfl⟩;rw [← hm0] at hall⊢;unfold zz at hB;have e0:=hB.cell;replace hn:=hid hn;replace hst:=hid hst;replace hrn:=hid hrn;replace hR:=hid hR;replace hall:=hid hall;replace hfacts:=hid hfacts;replace hm0:=hid hm0
 go_enter func62,ntmps62
 go_wp2_with fail
 refine hn.out.mono ?_;rintro e w1⟨rfl,hw1⟩;obtain rfl:=hw1.symm;go_wp2_with fail
 refine hst.out.mono ?_;rintro e w1⟨v,ow1,rfl,hs1,hst1,hsrc1,hfree1⟩;have hB1:=hN.blkS hs1;unfold zz at hB1;have ho1:=hN.ownS hs1;obtain⟨va,vc,rfl⟩:=hsrc1.shape;have hne1:∀b,va=some b->w.heap.size<=b.block/\ow1 b.block=[]:=λb hb=>hfree1 b _ _ (by rw [hb])
 have hsA:=hs1.mono (Sub.child t 1);have he1:=he.step ht hsA hge;clear e0 hB hfree1;replace hsrc1:=hid hsrc1;replace hne1:=hid hne1;go_wp2_with fail
 refine(Qn a B _ _ _ _ _ _ _ n.id n.version _ _ t ow1 w1 hv he1 ho1 hB1).mono ?_;rintro e w2⟨rfl,ow2,px2,lb2,pb2,hag2,hM2,kB2,hP2,hL2,hQ2⟩;have hsB:zq t ow1 w1 ow2 w2:=⟨hM2.mono (λk _ e=>by subst e;rw [ho1];exact Sub.rfl' t),hag2⟩
 have hI2:zx B px2 sb lb2 pb2 (.slice none 0 0) m0 t ow2 w2:=by
  rw [hm0.out];exact⟨kB2,hP2,yK.node (jp.loc sb _ (t++ [1])) hst1 ho1 hM2 hag2,hL2,hQ2,z7 _ _ _,(hag2 B hB1.lt).trans ho1,by simp [Value.ownBlock],hbad⟩
 have hsrc2:=hsrc1.out.step hsB (λb l c hv=>by cases hv;rw [(hne1.out b rfl).2];exact zj ht)
 have hne2:∀(k:Nat)(x:List UInt8),rs[k]?=some x->∀b l c,Value.slice va rs.length vc=.slice (some b) l c->¬Sub t (ow2 b.block):=λk x hx b l c hv=>by
  cases hv
  obtain⟨b',off,hb,hc⟩:=zeb hsrc1.out hx
  cases hb
  rw [hag2 _ (show b'<w1.heap.size from jH hc),(hne1.out _ rfl).2];exact zj ht
 replace hne2:=hid hne2;clear hB1 kB2 hP2 hL2 hQ2 hsrc2;have hsrc2:=λ(k:Nat)(x:List UInt8)(hx:rs[k]?=some x)=>hsrc1.out.step hsB (λb l c hv=>by cases hv;rw [(hne1.out b rfl).2];exact zj ht)
 replace hsrc2:=hid hsrc2;go_wp2_with fail
 go_loopw [30] (λp30 wr=>∃(k:Nat)(ow':Own),p30=.int .i64 (k:Nat)/\k<=rs.length/\jC B ((rs.take k).foldl yg m0) t ow' wr/\zq t ow2 w2 ow' wr) (λp30 _=>rs.length - (intOf p30).toNat)
 case atStart=>exact⟨0,ow2,rfl,by omega,⟨_,_,_,_,_,hI2⟩,zq.refl _ _ _⟩
 case round=>
  obtain⟨k,ow',rfl,hk,hNk,hsk⟩:=hrel
  by_cases hkl:k<rs.length
  ·obtain⟨x,hx⟩:∃x,rs[k]?=some x:=⟨_,N3 hkl⟩
   have t1:decide ((k:Int)<(rs.length:Int))=true:=by simpa using hkl
   have y0:(k:Int)<(rs.length:Int):=by omega
   have y1:(0:Int)<=(k:Int):=by omega
   have hxl:=hfacts.out.2 x (List.mem_of_getElem? hx);have h3:=(hall.out (rs.take k)).1;rw [N7] at h3;have h9:=hfacts.out.1;have hwk:IntKind.i64.wrap ((k:Int)+1)=(k:Int)+1:=by rw [N8];omega
   have hsrck:=(hsrc2.out k x hx).step hsk (hne2.out k x hx);obtain⟨b,off,hb,hc⟩:=zeb hsrck hx;subst hb;obtain⟨px3,sb3,lb3,pb3,av3,hI3⟩:=hNk;have hrp:=zc7 B _ t ow' x (by omega) wr hI3 (by omega)
   have hfd:(rs.take (k+1)).foldl yg m0=yg ((rs.take k).foldl yg m0) x:=by
    rw [List.take_add_one,hx];simp [List.foldl_append]
   rw [← hfd] at hrp;unfold vL at hrp;replace hfd:=hid hfd;replace hrp:=hid hrp;replace hx:=hid hx;replace hsrck:=hid hsrck;clear hI3 h3 h9;go_wp2_with fail
   refine hrp.out.mono ?_;rintro e w4⟨rfl,ow4,hs4,hN4⟩;go_wp2
   go_roundw
   case rel=>exact⟨k+1,ow4,by simp,by omega,hN4,hsk.trans hs4⟩
   case measure=>simp [intOf];omega
  ·obtain rfl:k=rs.length:=by omega
   have t1:decide ((rs.length:Int)<(rs.length:Int))=false:=by simp
   have h3:=hall.out rs;have h9:=hfacts.out.1;rw [List.take_length] at hNk;have hap:=Yw a B (rs.foldl yg m0) t ht ow' wr hNk (he1.step ht (hsB.trans hsk) (by rw [hs1.agree _ he.lt];exact hge)) (by rw [(hsB.trans hsk).agree _ he1.lt,hs1.agree _ he.lt];exact hge) (by rw [h3.2.2.1,h3.2.2.2.1];exact zjz _ _) (by rw [h3.2.2.2.1];omega) (by omega) h3.2.1 (h3.2.2.2.2.trans hbad);have hsame:=(yX 10001 (rs.foldl yg m0)).acc;obtain⟨⟨M,ms⟩,hM⟩:∃q,jn 10001 (rs.foldl yg m0)=q:=⟨_,rfl⟩;rw [hM] at hap hsame;unfold xV at hap;simp only at hap hsame;have haccM:M.acc.length<=200000:=by rw [hsame];omega
   replace hsame:=hid hsame;replace hap:=hid hap;have hpost:∀(M':zp) ow' W',M'={(jG (M.acc.length+1) M)with down:=false} ->zq t ow w ow' W'->jC B M' t ow' W'->vL B {(jG ((jn 10001 (rs.foldl yg m0)).1.acc.length+1) (jn 10001 (rs.foldl yg m0)).1)with down:=false} t ow w (.int .i64 0) (.returned (.int .i64 0)) W':=λM' ow' W' h1 h2 h3=>⟨rfl,ow',h2,by rw [hM,← h1];exact h3⟩
   replace hpost:=hid hpost;replace hM:=hid hM;go_wp2_with fail
   refine hap.out.mono ?_;rintro e w5⟨v5,ow5,rfl,hs5,hN5, -, -⟩;go_wp2_with fail
   refine(Zx B M t ow5 w5 hN5 (by omega)).mono ?_;rintro e w6⟨rfl,ow6,hs6,⟨px6,sb6,lb6,pb6,av6,hI6⟩⟩;obtain⟨M6,hM6⟩:∃M6,M6=jG (M.acc.length+1) M:=⟨_,rfl⟩;rw [← hM6] at hI6;have kB6:=hI6.blk;unfold zz at kB6;have c6:=kB6.cell;have f6:=kB6.frozen;have l6:=kB6.lt;have hset:=hI6.setOwn {M6 with down:=false} ((Mod.refl (λk=>k=B) w6).thenSet (p:=⟨B,11,none⟩) rfl (.bool false)) (kB6.set (o:=11) (.bool false)) rfl rfl rfl rfl rfl rfl;have hSt:=((((hsA.trans hsB).trans hsk).trans hs5).trans hs6).trans hset.1;replace hM6:=hid hM6;replace hset:=hid hset;go_wp2;go_ret
   exact hpost.out _ ow6 _ (by rw [hM6.out]) hSt ⟨_,_,_,_,_,hset.out.2⟩
