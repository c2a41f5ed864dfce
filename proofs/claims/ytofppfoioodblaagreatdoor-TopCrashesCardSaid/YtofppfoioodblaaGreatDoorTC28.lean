/- PARTS OF THE PROOF. -/
import Derived.Test.YtofppfoioodblaaGreatDoorTC27
set_option maxRecDepth 8000
set_option maxHeartbeats 4000000
open Go.Proofs.Tryz
namespace Go.Proofs.YtofppfoioodblaaGreatDoor
section
open Go Go.RowKit Go.Shelf Go.Extern.Stop Go.Stop Go.Extern
attribute [local go_sem] Oper.semAt_some zB zp
theorem zi6(w:World):Calls prog 149 #[.nilIface] w λe w'=>e=.returned (.int .i64 0)/\w'=w:=by
 go_enter func149,ntmps149
 go_wp2;go_ret
 exact⟨rfl,rfl⟩
theorem zkF {k s d:Nat}{b:List UInt8}(hk:k<=31)(hs:s<16)(hd:d<16)(hb:b.length<=4096):xU (qO (qQ k s d b)).1=some (zg4 (vi k) (vi (s*16+d:Nat)) (le4 b.length) b):=by
 rw [zbd hk hs hd,if_pos hb,Xi];simp [zg4,le4]
theorem zg5(k s d:Nat)(hk:k<=31)(hs:s<16)(hd:d<16)(b:List UInt8)(hb:b.length<=4096)(w:World):
 Calls prog 100 #[.string (bs (qO (qQ k s d b)).1)] w λe w'=>e=.returned (.tuple #[J5 k s d b,.int .i64 0])/\Below w.heap.size w w':=by
 have ae:=zkF (b:=b) hk hs hd hb;have ad:=λW=>zi5 k s d hk hs hd b hb W
 have ac:(qO (qQ k s d b)).1.length<=1073741824:=by
  rw [zbd hk hs hd,if_pos hb];unfold Zb;simp [le4]
  omega
 have ho:=λW=>zaT (qO (qQ k s d b)).1 ac W
 rw [ae] at ho
 generalize(qO (qQ k s d b)).1=S at*
 generalize zg4 (vi k) (vi (s*16+d:Nat)) (le4 b.length) b=B at*
 unfold zdR at ho;unfold J5 at ad⊢;simp only at ho;have k0:Blk (w.alloc (.cells #[.int .i64 0,.int .i64 0,.int .i64 0,.int .i64 0,.int .u32 0,.int .u32 0,.int .u32 0,.int .u32 0,.string ⟨#[]⟩] 182)) w.heap.size #[.int .i64 0,.int .i64 0,.int .i64 0,.int .i64 0,.int .u32 0,.int .u32 0,.int .u32 0,.int .u32 0,.string ⟨#[]⟩] 182:=Blk.new rfl;replace ae:=hid ae;replace ho:=hid ho;replace ad:=hid ad;clear hk hs hd ac hb
 go_enter func100,ntmps100
 go_wp2_with fail
 refine(ho.out _).mono ?_;rintro e w1⟨rfl,ai⟩;have ah:Below w.heap.size w w1:=pbx;go_wp2_with fail
 refine(ad.out _).mono ?_;rintro e w2⟨rfl,af⟩;have k2:=((k0.call ai).call af).alloc (.cells #[.int .i64 1,.int .i64 k,.int .i64 s,.int .i64 d,.int .u32 0,.int .u32 0,.int .u32 0,.int .u32 0,.string (bs b)] 182);have kf:Blk (w2.alloc (.cells #[.int .i64 1,.int .i64 k,.int .i64 s,.int .i64 d,.int .u32 0,.int .u32 0,.int .u32 0,.int .u32 0,.string (bs b)] 182)) w2.heap.size #[.int .i64 1,.int .i64 k,.int .i64 s,.int .i64 d,.int .u32 0,.int .u32 0,.int .u32 0,.int .u32 0,.string (bs b)] 182:=Blk.new rfl;have ag:=zh ah af;go_wp2_with fail
 refine zd [O 0,O 1,E 2,E 3,O 4] none (λw'=>Blk w' w2.heap.size #[.int .i64 1,.int .i64 k,.int .i64 s,.int .i64 d,.int .u32 0,.int .u32 0,.int .u32 0,.int .u32 0,.string (bs b)] 182/\True) ⟨kf.drew,trivial⟩ ?_
 refine Wb ?_
 refine zc rfl (λK hK=>?_);go_wp2_with fail
 refine(zi6 _).mono ?_;rintro e w3⟨rfl,rfl⟩;go_wp2;refine hK.out _ _ (λ_=>⟨kf.drew,trivial⟩) ?_;clear hK K;have aa:w2.heap.size≠w.heap.size:=by have:=ai.size;have:=af.size;simp at*;omega
 obtain⟨V,hV⟩:∃V,V=(w2.alloc (.cells #[.int .i64 1,.int .i64 k,.int .i64 s,.int .i64 d,.int .u32 0,.int .u32 0,.int .u32 0,.int .u32 0,.string (bs b)] 182)):=⟨_,rfl⟩;rw [← hV] at k2 kf;rw [← hV];have d0:V.cell? ⟨w.heap.size,0,none⟩=some (.int .i64 0):=k2.cell 0;have d1:V.cell? ⟨w.heap.size,1,none⟩=some (.int .i64 0):=k2.cell 1;have d2:V.cell? ⟨w.heap.size,2,none⟩=some (.int .i64 0):=k2.cell 2;have d3:V.cell? ⟨w.heap.size,3,none⟩=some (.int .i64 0):=k2.cell 3;have d4:V.cell? ⟨w.heap.size,4,none⟩=some (.int .u32 0):=k2.cell 4;have d5:V.cell? ⟨w.heap.size,5,none⟩=some (.int .u32 0):=k2.cell 5;have d6:V.cell? ⟨w.heap.size,6,none⟩=some (.int .u32 0):=k2.cell 6;have d7:V.cell? ⟨w.heap.size,7,none⟩=some (.int .u32 0):=k2.cell 7;have d8:V.cell? ⟨w.heap.size,8,none⟩=some (.string ⟨#[]⟩):=k2.cell 8;have aj:Below w.heap.size w V:=by rw [hV];exact zi ag _
 clear hV;have f2:=k2.frozen;have l2:=k2.lt;have rr:=(Blk.drew (((((((((k2.set (o:=0) (.int .i64 1)).set (o:=1) (.int .i64 k)).set (o:=2) (.int .i64 s)).set (o:=3) (.int .i64 d)).set (o:=4) (.int .u32 0)).set (o:=5) (.int .u32 0)).set (o:=6) (.int .u32 0)).set (o:=7) (.int .u32 0)).set (o:=8) (.string (bs b)))).cell;refine zc rfl (λK hK=>?_);go_wp2;refine hK.out _ _ (λ_=>⟨Blk.drew (Blk.other ((Blk.other ((Blk.other ((Blk.other ((Blk.other ((Blk.other ((Blk.other ((Blk.other ((Blk.other (kf) (p:=⟨w.heap.size,0,none⟩) aa (.int .i64 1))) (p:=⟨w.heap.size,1,none⟩) aa (.int .i64 k))) (p:=⟨w.heap.size,2,none⟩) aa (.int .i64 s))) (p:=⟨w.heap.size,3,none⟩) aa (.int .i64 d))) (p:=⟨w.heap.size,4,none⟩) aa (.int .u32 0))) (p:=⟨w.heap.size,5,none⟩) aa (.int .u32 0))) (p:=⟨w.heap.size,6,none⟩) aa (.int .u32 0))) (p:=⟨w.heap.size,7,none⟩) aa (.int .u32 0))) (p:=⟨w.heap.size,8,none⟩) aa (.string (bs b))),trivial⟩) ?_;clear hK K
 refine Wb ?_
 refine ze ?_;go_wp2;exact bodyPost_ret (v:=.tuple #[.agg #[.int .i64 1,.int .i64 k,.int .i64 s,.int .i64 d,.int .u32 0,.int .u32 0,.int .u32 0,.int .u32 0,.string (bs b)],.int .i64 0]) (by simp [results,Tryz.results100,go_sem,rr]) rfl ⟨rfl,zq (zn (zn (zn (zn (zn (zn (zn (zn (zn aj (N0 _) _) (N0 _) _) (N0 _) _) (N0 _) _) (N0 _) _) (N0 _) _) (N0 _) _) (N0 _) _) (N0 _) _)⟩
def zmH:Value:=.agg #[.int .i64 0,.int .i64 0,.int .i64 0,.int .i64 0,.int .u32 0,.int .u32 0,.int .u32 0,.int .u32 0,.string ⟨#[]⟩]
theorem zg6(S:List UInt8)(hl:S.length<=1073741824)(hop:xU S=none)(w:World):
 Calls prog 100 #[.string (bs S)] w λe w'=>e=.returned (.tuple #[zmH,.int .i64 21])/\Below w.heap.size w w':=by
 have ho:=λW=>zaT S hl W
 rw [hop] at ho;unfold zdR at ho;simp only at ho;replace ho:=hid ho;replace hop:=hid hop;unfold zmH;have k0:Blk (w.alloc (.cells #[.int .i64 0,.int .i64 0,.int .i64 0,.int .i64 0,.int .u32 0,.int .u32 0,.int .u32 0,.int .u32 0,.string ⟨#[]⟩] 182)) w.heap.size #[.int .i64 0,.int .i64 0,.int .i64 0,.int .i64 0,.int .u32 0,.int .u32 0,.int .u32 0,.int .u32 0,.string ⟨#[]⟩] 182:=Blk.new rfl
 go_enter func100,ntmps100
 go_wp2_with fail
 refine(ho.out _).mono ?_;rintro e w1⟨rfl,ac⟩;have aa:Below w.heap.size w w1:=pbx;have k1:=k0.call ac;have f1:=k1.frozen;have l1:=k1.lt;have d0:w1.cell? ⟨w.heap.size,0,none⟩=some (.int .i64 0):=k1.cell 0;have d1:w1.cell? ⟨w.heap.size,1,none⟩=some (.int .i64 0):=k1.cell 1;have d2:w1.cell? ⟨w.heap.size,2,none⟩=some (.int .i64 0):=k1.cell 2;have d3:w1.cell? ⟨w.heap.size,3,none⟩=some (.int .i64 0):=k1.cell 3;have d4:w1.cell? ⟨w.heap.size,4,none⟩=some (.int .u32 0):=k1.cell 4;have d5:w1.cell? ⟨w.heap.size,5,none⟩=some (.int .u32 0):=k1.cell 5;have d6:w1.cell? ⟨w.heap.size,6,none⟩=some (.int .u32 0):=k1.cell 6;have d7:w1.cell? ⟨w.heap.size,7,none⟩=some (.int .u32 0):=k1.cell 7;have d8:w1.cell? ⟨w.heap.size,8,none⟩=some (.string ⟨#[]⟩):=k1.cell 8;go_wp2;have rr:=(((((((((k1.set (o:=0) (.int .i64 0)).set (o:=1) (.int .i64 0)).set (o:=2) (.int .i64 0)).set (o:=3) (.int .i64 0)).set (o:=4) (.int .u32 0)).set (o:=5) (.int .u32 0)).set (o:=6) (.int .u32 0)).set (o:=7) (.int .u32 0)).set (o:=8) (.string ⟨#[]⟩)).cell;exact bodyPost_ret (v:=.tuple #[.agg #[.int .i64 0,.int .i64 0,.int .i64 0,.int .i64 0,.int .u32 0,.int .u32 0,.int .u32 0,.int .u32 0,.string ⟨#[]⟩],.int .i64 21]) (by simp [results,Tryz.results100,go_sem,rr]) rfl ⟨rfl,(zn (zn (zn (zn (zn (zn (zn (zn (zn aa (N0 _) _) (N0 _) _) (N0 _) _) (N0 _) _) (N0 _) _) (N0 _) _) (N0 _) _) (N0 _) _) (N0 _) _)⟩
theorem zi7(n:Nat):le4 (n % 4294967296)=le4 n:=by
 unfold le4
 have h:∀k,UInt8.ofNat (n % 4294967296 / 256 ^ k)=UInt8.ofNat (n / 256 ^ k)∨4<=k:=λk=>by
  rcases(by omega:k=0∨k=1∨k=2∨k=3∨4<=k)with rfl|rfl|rfl|rfl|h
  ·left;apply UInt8.toNat_inj.1;simp
  ·left;apply UInt8.toNat_inj.1;simp;omega
  ·left;apply UInt8.toNat_inj.1;simp;omega
  ·left;apply UInt8.toNat_inj.1;simp;omega
  right;exact h
 have h0:=(h 0).resolve_right (by omega);have h1:=(h 1).resolve_right (by omega);have h2:=(h 2).resolve_right (by omega);have h3:=(h 3).resolve_right (by omega);simp only [Nat.pow_zero,Nat.div_one,Nat.pow_one] at h0 h1;rw [h0,h1,show(65536:Nat)=256 ^ 2 by decide,h2,show(16777216:Nat)=256 ^ 3 by decide,h3]
theorem zfs(b:Nat)(w:World):Calls prog 192 #[.int .u64 (b:Nat)] w λe w'=>e=.returned (.string (bs (le8 b)))/\Below w.heap.size w w':=by
 have h1:IntKind.u32.wrap (b:Int)=((b % 4294967296:Nat):Int):=by rw [IntKind.wrap_u32];omega
 have h2:IntKind.u32.wrap ((b:Int) / 4294967296)=((b / 4294967296 % 4294967296:Nat):Int):=by rw [IntKind.wrap_u32];omega
 have ad:=JA (le4 b) (le4 (b / 4294967296)) (by rw [jd,jd];omega);have p1:=λW=>y9 (b % 4294967296) W
 have p2:=λW=>y9 (b / 4294967296 % 4294967296) W
 rw [zi7] at p1 p2;unfold le8
 generalize le4 b=x at*
 generalize le4 (b / 4294967296)=y at*
 generalize b % 4294967296=b1 at*
 generalize b / 4294967296 % 4294967296=b2 at*
 replace p1:=hid p1;replace p2:=hid p2
 go_enter func192,ntmps192
 go_wp2_with fail
 refine(p1.out _).mono ?_;rintro e w1⟨rfl,ac⟩;go_wp2_with fail
 refine(p2.out _).mono ?_;rintro e w2⟨rfl,aa⟩;go_wp2;go_ret
 exact⟨rfl,zh ac aa⟩
theorem zg7(w:World):Calls prog 138 #[.slice none 0 0,.string ⟨#[]⟩] w λe w'=>e=.returned (.string (bs []))/\w'=w:=by
 go_enter func138,ntmps138
 go_wp2;go_ret
 exact⟨rfl,rfl⟩
theorem zi8(v:Value)(ts:List (List UInt8))(w:World)(hv:Src w v 1 ts.length (yR ts))(hn:ts.length<=1000)(hl:ts.flatten.length<=1073741824):
 Calls prog 138 #[v,.string ⟨#[]⟩] w λe w'=>e=.returned (.string (bs ts.flatten))/\Below w.heap.size w w':=by
 by_cases h0:0<ts.length
 ·exact zco v ts w hv h0 hn hl
 have h1:ts=[]:=N9 (by omega)
 subst h1
 rcases hv.2 with⟨rfl, -⟩|⟨b,off,cap,rfl, -⟩
 ·refine(zg7 w).mono ?_
  rintro e w'⟨rfl,rfl⟩;exact⟨rfl,N2 _ _⟩
 go_enter func138,ntmps138
 go_wp2;go_ret
 exact⟨rfl,N2 _ _⟩
def x4(inst:Int)(ballot:Nat):Value:=.agg #[.int .i64 inst,.int .u64 (ballot:Nat)]
def x6(inst:Int)(ballot:Nat)(more:List UInt8):List UInt8:=le4 (inst % 4294967296).toNat++le8 ballot++more
theorem Jh(kind src dst inst:Int)(ballot:Nat)(v:Value)(ts:List (List UInt8))(w:World)(hv:Src w v 1 ts.length (yR ts))(hn:ts.length<=1000)(hl:ts.flatten.length<=1000000):
 Calls prog 145 #[.int .i64 kind,.int .i64 src,.int .i64 dst,x4 inst ballot,v] w λe w'=>e=.returned (J5 kind src dst (x6 inst ballot ts.flatten))/\Below w.heap.size w w':=by
 have hj:=λW hW=>zi8 v ts W hW hn (by omega)
 have hp:=λW=>y9 (inst % 4294967296).toNat W
 have ak:IntKind.u32.wrap inst=(((inst % 4294967296).toNat:Nat):Int):=by rw [IntKind.wrap_u32];omega
 have hq:=λW=>zfs ballot W
 have a1:=JA (le4 (inst % 4294967296).toNat) (le8 ballot) (by simp [le8,jd]);have a2:=JA (le4 (inst % 4294967296).toNat++le8 ballot) ts.flatten (by rw [show(le4 (inst % 4294967296).toNat++le8 ballot).length=12 from rfl];omega);unfold x4 x6 J5
 generalize(inst % 4294967296).toNat=i4 at*
 generalize le4 i4=x at*
 generalize le8 ballot=y at*
 generalize ts.flatten=z at*
 obtain⟨ah,aa⟩:∃q,x++y++z=q:=⟨_,rfl⟩;rw [aa] at a2⊢;replace aa:=hid aa;replace hj:=hid hj;replace hp:=hid hp;replace hq:=hid hq;replace a1:=hid a1;replace a2:=hid a2;have km:Blk ((w.alloc (.cells #[.int .i64 inst,.int .u64 (ballot:Nat)] 171)).alloc (.cells #[.int .i64 0,.int .i64 0,.int .i64 0,.int .i64 0,.int .u32 0,.int .u32 0,.int .u32 0,.int .u32 0,.string ⟨#[]⟩] 182)) w.heap.size #[.int .i64 inst,.int .u64 (ballot:Nat)] 171:=(Blk.new rfl).alloc _;have kr:Blk ((w.alloc (.cells #[.int .i64 inst,.int .u64 (ballot:Nat)] 171)).alloc (.cells #[.int .i64 0,.int .i64 0,.int .i64 0,.int .i64 0,.int .u32 0,.int .u32 0,.int .u32 0,.int .u32 0,.string ⟨#[]⟩] 182)) (w.heap.size+1) #[.int .i64 0,.int .i64 0,.int .i64 0,.int .i64 0,.int .u32 0,.int .u32 0,.int .u32 0,.int .u32 0,.string ⟨#[]⟩] 182:=Blk.new (by simp);have ai:Below w.heap.size w ((w.alloc (.cells #[.int .i64 inst,.int .u64 (ballot:Nat)] 171)).alloc (.cells #[.int .i64 0,.int .i64 0,.int .i64 0,.int .i64 0,.int .u32 0,.int .u32 0,.int .u32 0,.int .u32 0,.string ⟨#[]⟩] 182)):=pbx
 obtain⟨va,vn,vc,rfl⟩:∃a n c,v=.slice a n c:=by
  rcases hv.2 with⟨rfl, -⟩|⟨b,off,cap,rfl, -⟩<;>exact⟨_,_,_,rfl⟩
 go_enter func145,ntmps145
 go_wp2_with fail
 refine zd [O 0,O 1,O 2,O 4,O 5,O 8,E 3,E 6,O 7,E 9,O 10,O 11] none (λw'=>Blk w' w.heap.size #[.int .i64 inst,.int .u64 (ballot:Nat)] 171/\True) ⟨km.drew,trivial⟩ ?_
 refine Wb ?_
 refine zc rfl (λK hK=>?_);go_wp2_with fail
 refine(hp.out _).mono ?_;rintro e w1⟨rfl,ad⟩;have k1:=km.drew.call ad;go_wp2;refine hK.out _ _ (λ_=>⟨k1,trivial⟩) ?_;clear hK K;refine zc rfl (λK hK=>?_);go_wp2_with fail
 refine(hq.out _).mono ?_;rintro e w2⟨rfl,ac⟩;have k2:=k1.call ac;have aj:=a1.out w2;go_wp2;refine hK.out _ _ (λ_=>⟨k2,trivial⟩) ?_;clear hK K;have ae:=a1.out
 refine Wb ?_
 refine zc rfl (λK hK=>?_);go_wp2_with fail
 refine(hj.out _ (hv.below (zh (zh (zq ai) ad) ac))).mono ?_;rintro e w3⟨rfl,ag⟩;have af:=zh (zh (zh (zq ai) ad) ac) ag;have k3:=(kr.drew.call ad).call (zh ac ag);have al:=a2.out;go_wp2;refine hK.out _ _ (λ_=>⟨k2.call ag,trivial⟩) ?_;clear hK K ae aj
 refine Wb ?_
 refine ze ?_;have d0:w3.cell? ⟨w.heap.size+1,0,none⟩=some (.int .i64 0):=k3.cell 0;have d1:w3.cell? ⟨w.heap.size+1,1,none⟩=some (.int .i64 0):=k3.cell 1;have d2:w3.cell? ⟨w.heap.size+1,2,none⟩=some (.int .i64 0):=k3.cell 2;have d3:w3.cell? ⟨w.heap.size+1,3,none⟩=some (.int .i64 0):=k3.cell 3;have d4:w3.cell? ⟨w.heap.size+1,4,none⟩=some (.int .u32 0):=k3.cell 4;have d5:w3.cell? ⟨w.heap.size+1,5,none⟩=some (.int .u32 0):=k3.cell 5;have d6:w3.cell? ⟨w.heap.size+1,6,none⟩=some (.int .u32 0):=k3.cell 6;have d7:w3.cell? ⟨w.heap.size+1,7,none⟩=some (.int .u32 0):=k3.cell 7;have d8:w3.cell? ⟨w.heap.size+1,8,none⟩=some (.string ⟨#[]⟩):=k3.cell 8;have f3:=k3.frozen;have l3:=k3.lt;have rr:=(((((((((k3.set (o:=0) (.int .i64 1)).set (o:=1) (.int .i64 kind)).set (o:=2) (.int .i64 src)).set (o:=3) (.int .i64 dst)).set (o:=4) (.int .u32 0)).set (o:=5) (.int .u32 0)).set (o:=6) (.int .u32 0)).set (o:=7) (.int .u32 0)).set (o:=8) (.string (bs ah))).cell;go_wp2;exact bodyPost_ret (v:=.agg #[.int .i64 1,.int .i64 kind,.int .i64 src,.int .i64 dst,.int .u32 0,.int .u32 0,.int .u32 0,.int .u32 0,.string (bs ah)]) (by simp [results,Tryz.results145,go_sem,rr]) rfl ⟨rfl,(zn (zn (zn (zn (zn (zn (zn (zn (zn af (by simp) _) (by simp) _) (by simp) _) (by simp) _) (by simp) _) (by simp) _) (by simp) _) (by simp) _) (by simp) _)⟩
theorem zft(s:List UInt8)(h8:8<=s.length)(hs:s.length<=1000000)(w:World):Calls prog 199 #[.string (bs s)] w λe w'=>e=.returned (.int .u64 (z8 s 0+4294967296*z8 s 4:Nat))/\Below w.heap.size w w':=by
 have ae:=zL s;have an:=vS s 4;have af:=yC s 4 8;unfold z8;rw [List.drop_zero];rw [show 8 - 4=4 from rfl] at af;have aj:(s.take 4).length=4:=by rw [N7];omega
 have ag:((s.drop 4).take 4).length=4:=by rw [N7,U3];omega
 have g1:=λW=>ql (s.take 4) (by omega) W
 have g2:=λW=>ql ((s.drop 4).take 4) (by omega) W
 rw [xf aj] at g1;rw [xf ag] at g2;have ad:=xx (s.take 4);have ac:=xx ((s.drop 4).take 4)
 generalize s.take 4=d1 at*
 generalize(s.drop 4).take 4=d2 at*
 generalize yy d1=n1 at*
 generalize yy d2=n2 at*
 have al:=zd8 n2 n1 ac ad;have aa:=zfk n2 n1 ac ad;replace aa:=hid aa;have am:IntKind.u64.wrap (n2:Int)=(n2:Int):=by rw [IntKind.wrap_u64];omega
 have ak:IntKind.u64.wrap (n1:Int)=(n1:Int):=by rw [IntKind.wrap_u64];omega
 have y1:(8:Int)<=((bs s).size:Int):=by omega
 have y2:(4:Int)<=((bs s).size:Int):=by omega
 replace ae:=hid ae;replace g1:=hid g1;replace g2:=hid g2;clear h8 hs
 go_enter func199,ntmps199
 go_wp2_with fail
 refine(g1.out _).mono ?_;rintro e w1⟨rfl,ai⟩;go_wp2_with fail
 refine(g2.out _).mono ?_;rintro e w2⟨rfl,ah⟩;go_wp2;go_ret
 exact⟨by rw [← aa.out];rfl,zh ai ah⟩
def zlJ(d:List UInt8):Value:=if d.length<12 then .tuple #[.agg #[.int .i64 0,.int .u64 0],.string ⟨#[]⟩,.bool false]
 else .tuple #[x4 (z8 d 0:Nat) (z8 d 4+4294967296*z8 d 8),.string (bs (d.drop 12)),.bool true]
theorem zi9(k s t:Int)(d:List UInt8)(hd:d.length<=4096)(w:World):Calls prog 150 #[J5 k s t d] w λe w'=>e=.returned (zlJ d)/\Below w.heap.size w w':=by
 have aa:=zL d;have kf:Blk ((w.alloc (.cells #[.int .i64 1,.int .i64 k,.int .i64 s,.int .i64 t,.int .u32 0,.int .u32 0,.int .u32 0,.int .u32 0,.string (bs d)] 182)).alloc (.cells #[.int .i64 0,.int .u64 0] 171)) w.heap.size #[.int .i64 1,.int .i64 k,.int .i64 s,.int .i64 t,.int .u32 0,.int .u32 0,.int .u32 0,.int .u32 0,.string (bs d)] 182:=(Blk.new rfl).alloc _;have km:Blk ((w.alloc (.cells #[.int .i64 1,.int .i64 k,.int .i64 s,.int .i64 t,.int .u32 0,.int .u32 0,.int .u32 0,.int .u32 0,.string (bs d)] 182)).alloc (.cells #[.int .i64 0,.int .u64 0] 171)) (w.heap.size+1) #[.int .i64 0,.int .u64 0] 171:=Blk.new (by simp);have ac:Below w.heap.size w ((w.alloc (.cells #[.int .i64 1,.int .i64 k,.int .i64 s,.int .i64 t,.int .u32 0,.int .u32 0,.int .u32 0,.int .u32 0,.string (bs d)] 182)).alloc (.cells #[.int .i64 0,.int .u64 0] 171)):=pbx;unfold zlJ J5
 by_cases hl:d.length<12
 ·rw [if_pos hl]
  have t1:decide (((bs d).size:Int)<12)=true:=by rw [aa];simp;omega
  replace aa:=hid aa;clear hl kf hd;replace km:=hid km;replace ac:=hid ac
  go_enter func150,ntmps150
  go_wp2;exact bodyPost_ret (v:=.tuple #[.agg #[.int .i64 0,.int .u64 0],.string ⟨#[]⟩,.bool false]) (by simp [results,Tryz.results150,go_sem]) rfl ⟨rfl,ac.out⟩
 rw [if_neg hl]
 have t1:decide (((bs d).size:Int)<12)=false:=by rw [aa];simp;omega
 have al:=vS d 4;have aj:=yC d 4 12;have am:=ju d 12;rw [show 12 - 4=8 from rfl] at aj;have ai:(d.take 4).length=4:=by rw [N7];omega
 have g1:=λW=>ql (d.take 4) (by omega) W
 rw [xf ai] at g1;have ak:((d.drop 4).take 8).length=8:=by rw [N7,U3];omega
 have g2:=λW=>zft ((d.drop 4).take 8) (by omega) (by omega) W
 have e1:z8 ((d.drop 4).take 8) 0=z8 d 4:=by unfold z8;rw [List.drop_zero,List.take_take];rfl
 have e2:z8 ((d.drop 4).take 8) 4=z8 d 8:=by unfold z8;rw [List.drop_take,List.take_take,List.drop_drop];rfl
 rw [e1,e2] at g2;have e0:yy (d.take 4)=z8 d 0:=rfl;rw [e0] at g1;have hq:=xx (d.take 4);rw [e0] at hq;have an:IntKind.i64.wrap ((z8 d 0:Nat):Int)=((z8 d 0:Nat):Int):=by rw [N8];omega
 have y1:(4:Int)<=((bs d).size:Int):=by omega
 have y2:(12:Int)<=((bs d).size:Int):=by omega
 have y3:((bs d).size:Int)<=4096:=by omega
 unfold x4
 generalize z8 d 4+4294967296*z8 d 8=bal at*
 generalize z8 d 0=ins at*
 generalize(d.drop 4).take 8=d8 at*
 generalize d.take 4=d4 at*
 generalize d.drop 12=d12 at*
 have c0:=kf.cell;replace aa:=hid aa;replace g1:=hid g1;replace g2:=hid g2;clear hl hd ai ak hq e0 e1 e2
 go_enter func150,ntmps150
 go_wp2_with fail
 refine(g1.out _).mono ?_;rintro e w1⟨rfl,ae⟩;have ag:=zh ac ae;have k1:=kf.call ae;have m1:=km.call ae;clear c0;go_wp2_with fail
 refine zd [O 0,O 1,O 2,O 3,O 4,O 7,O 8,O 9,E 5,E 6,E 10,O 11,O 12] none (λw'=>Blk w' w.heap.size #[.int .i64 1,.int .i64 k,.int .i64 s,.int .i64 t,.int .u32 0,.int .u32 0,.int .u32 0,.int .u32 0,.string (bs d)] 182/\True) ⟨k1.drew,trivial⟩ ?_
 refine Wb ?_
 refine zc rfl (λK hK=>?_);go_wp2_with fail
 refine(g2.out _).mono ?_;rintro e w2⟨rfl,ad⟩;have af:=zh (zq ag) ad;have k2:=k1.drew.call ad;have m2:=m1.drew.call ad;have ah:w.heap.size≠w.heap.size+1:=by omega
 go_wp2;refine hK.out _ _ (λ_=>⟨k2,trivial⟩) ?_;clear hK K;have d0:w2.cell? ⟨w.heap.size+1,0,none⟩=some (.int .i64 0):=m2.cell 0;have d1:w2.cell? ⟨w.heap.size+1,1,none⟩=some (.int .u64 0):=m2.cell 1;have f2:=m2.frozen;have l2:=m2.lt
 refine Wb ?_
 refine zc rfl (λK hK=>?_);go_wp2;refine hK.out _ _ (λ_=>⟨k2,trivial⟩) ?_;clear hK K
 refine Wb ?_
 refine zc rfl (λK hK=>?_);go_wp2;refine hK.out _ _ (λ_=>⟨(k2.other (p:=⟨w.heap.size+1,0,none⟩) ah (.int .i64 ins)).other (p:=⟨w.heap.size+1,1,none⟩) ah (.int .u64 bal),trivial⟩) ?_;clear hK K
 refine Wb ?_
 refine ze ?_;have rr:=((m2.set (o:=0) (.int .i64 ins)).set (o:=1) (.int .u64 bal)).cell;go_wp2;exact bodyPost_ret (v:=.tuple #[.agg #[.int .i64 ins,.int .u64 bal],.string (bs d12),.bool true]) (by simp [results,Tryz.results150,go_sem,rr]) rfl ⟨rfl,zn (zn af (by simp) _) (by simp) _⟩
theorem zja {S:zf}(hl:S.last<4294967295)(d:Int)(s:List UInt8):yB S d s=({S with last:=(yF S.last S.notes d s).1,notes:=(yF S.last S.notes d s).2.1},(yF S.last S.notes d s).2.2):=by
 unfold yB yF;rw [Nat.mod_eq_of_lt (by omega)]
 split<;>rfl
structure zbe(S:zf):Prop where
 notes:S.notes.length<=1000
 last:S.last<4294967000
 n0:1<=S.nodes.length/\S.nodes.length<=16
theorem zu.room {v:Int}{k L:Nat}{S:zf}(h:zu v k L S)(hL:L<=3000000000):zbe S:=⟨h.notesN,by have:=h.last;omega,h.n0⟩
def QG(S:zf)(k s d:Nat)(data:List UInt8):zf:=if(qO (qQ k s d data)).2=0 then {S with last:=(yF S.last S.notes d (qO (qQ k s d data)).1).1,notes:=(yF S.last S.notes d (qO (qQ k s d data)).1).2.1} else S
theorem VW {S:zf}(h:S.last<4294967295)(k s d:Nat)(inst:Int)(ballot:Nat)(more:List UInt8):QG S k s d (x6 inst ballot more)=vp S (jn k s d inst ballot more):=by
 unfold QG vp
 show _=if(qO (qQ k s d (x6 inst ballot more))).2=0 then(yB S (d:Int) (qO (qQ k s d (x6 inst ballot more))).1).1 else S
 rw [zja h]
theorem Qb(B:Nat)(K:WK)(S:zf)(t:List Nat)(ow:Own)(b k s d:Nat)(hk:k<=31)(hs:s<16)(hd:d<16)(data:List UInt8)(hl:data.length<=1000000)(w:World)(h:zI B K S t ow w)(hg1:S.notes.length<=1000)(hg2:S.last<4294967295)(hb:Blk w b (zmv k s d data) 182):
 Calls prog 144 #[.pointer (some ⟨B,0,none⟩),.slice (some ⟨b,0,none⟩) 1 1] w (xK B K (QG S k s d data) t ow w (.tuple #[])):=by
 obtain⟨tv,lp,hI⟩:=h;have hB:=hI.blk;have ae:=λW=>zel k s d data hk hs hd hl W
 have af:=λW hW=>zgW K.fb S.last S.notes hg2 (t++ [16]) ow (d:Int) (by omega) (by omega) (qO (qQ k s d data)).1 W hW hg1
 unfold J5 at ae;unfold zmv at hb;obtain⟨S',ad⟩:∃S',QG S k s d data=S':=⟨_,rfl⟩;have aa:=ad;unfold QG at aa;rw [ad]
 generalize qO (qQ k s d data)=q at*
 obtain⟨q1,q2⟩:=q;simp only at ae af aa;replace ae:=hid ae;replace af:=hid af
 by_cases hq:q2=0
 ·rw [if_pos hq] at aa
  have t1:(q2==0)=true:=by simp [hq]
  replace ad:=hid ad;replace aa:=hid aa;replace hq:=hid hq
  go_enter func144,ntmps144
  go_wp2
  go_loopw [10] (λp10 wr=>(p10=.int .i64 0/\wr=w)∨(p10=.int .i64 1/\xK B K S' t ow w (.tuple #[]) (.returned (.tuple #[])) wr)) (λp10 _=>1 - (intOf p10).toNat)
  case atStart=>exact .inl ⟨rfl,rfl⟩
  case round=>
   rcases hrel with⟨rfl,rfl⟩|⟨rfl,hp⟩
   ·
     have c0:=hb.cell;have e0:=hB.cell;go_wp2_with fail
     refine(ae.out _).mono ?_;rintro e w1⟨rfl,ah⟩;have ac:Below wr.heap.size wr w1:=pbx;have k5:Blk w1 wr.heap.size #[.int .i64 1,.int .i64 k,.int .i64 s,.int .i64 d,.int .u32 0,.int .u32 0,.int .u32 0,.int .u32 0,.string (bs data)] 182:=(Blk.new rfl).call ah;have al:=hB.call ac;clear c0 e0;go_wp2_with fail
     refine zd [O 0,O 1,O 2,O 3,O 4,O 5,O 6,E 7] (some 7) (λw'=>Blk w' B #[.slice (some ⟨K.nb,0,none⟩) S.nodes.length K.nc,.slice (some ⟨K.sb,0,none⟩) S.nodes.length S.nodes.length,.map (some K.lm),.pointer (some ⟨K.fb,0,none⟩),.map (some K.hm),.map (some K.dm),tv] 65/\Blk w' wr.heap.size #[.int .i64 1,.int .i64 k,.int .i64 s,.int .i64 d,.int .u32 0,.int .u32 0,.int .u32 0,.int .u32 0,.string (bs data)] 182/\True) ⟨al.drew,k5.drew,trivial⟩ ?_
     refine Wd ?_
     refine zc rfl (λK hK=>?_);go_wp2_with fail
     refine(af.out _ ((jT.loc _ _ _ _).below hI.flight (zq ac))).mono ?_;rintro e w2⟨rfl,am,ak,hF⟩;go_wp2;refine hK.out _ _ (λhh=>absurd rfl hh) ?_;clear hK;refine ze ?_;have ai:=((zl.loc _ _ _ _ _ _).below hI (zq ac)).setFlight ak hF;go_wp2
     go_roundw
     case rel=>exact .inr ⟨rfl,rfl,am,(zt.of_below t ow (zq ac)).trans (ak.mono (Sub.child t 16)),by rw [← aa.out];exact⟨_,_,ai⟩⟩
     case measure=>simp [intOf]
   obtain⟨-,ow',ag,aj⟩:=hp
   go_wp2;go_end0
   exact⟨rfl,ow',ag,aj⟩
 rw [if_neg hq] at aa
 have t1:(q2==0)=false:=by simp [hq]
 replace ad:=hid ad;replace aa:=hid aa;replace hq:=hid hq
 go_enter func144,ntmps144
 go_wp2
 go_loopw [10] (λp10 wr=>(p10=.int .i64 0/\wr=w)∨(p10=.int .i64 1/\xK B K S' t ow w (.tuple #[]) (.returned (.tuple #[])) wr)) (λp10 _=>1 - (intOf p10).toNat)
 case atStart=>exact .inl ⟨rfl,rfl⟩
 case round=>
  rcases hrel with⟨rfl,rfl⟩|⟨rfl,hp⟩
  ·
    have c0:=hb.cell;have e0:=hB.cell;go_wp2_with fail
    refine(ae.out _).mono ?_;rintro e w1⟨rfl,ah⟩;have ac:Below wr.heap.size wr w1:=pbx;have k5:Blk w1 wr.heap.size #[.int .i64 1,.int .i64 k,.int .i64 s,.int .i64 d,.int .u32 0,.int .u32 0,.int .u32 0,.int .u32 0,.string (bs data)] 182:=(Blk.new rfl).call ah;have al:=hB.call ac;clear c0 e0;have ai:=(zl.loc _ _ _ _ _ _).below hI ac;go_wp2
    go_roundw
    case rel=>exact .inr ⟨rfl,rfl,ow,zt.of_below t ow ac,by rw [← aa.out];exact⟨_,_,ai⟩⟩
    case measure=>simp [intOf]
  obtain⟨-,ow',ag,aj⟩:=hp
  go_wp2;go_end0
  exact⟨rfl,ow',ag,aj⟩
theorem zg8(S:zf)(f:y8)(hn:S.notes.length<=1000)(hl:S.last<4294967295):(vp S f).notes.length<=1000/\(vp S f).last<=S.last+1/\(vp S f).nodes=S.nodes:=by
 refine⟨?_,?_,(x9 S f).1⟩
 ·unfold vp yB
  split
  ·split
   ·exact hn
   show(S.notes++ [_]).length<=_
   rw [N1,U2];omega
  exact hn
 unfold vp yB
 split
 ·split
  ·show S.last<=_;omega
  show(S.last+1)% 4294967296<=_;omega
 omega
def Zv(S:zf)(kind src inst:Int)(ballot:Nat)(more:List UInt8)(j:Nat):zf:=(List.range j).foldl (λw (i:Nat)=>vp w (jn kind src i inst ballot more)) S
theorem Qc(S:zf)(kind src inst:Int)(ballot:Nat)(more:List UInt8)(j:Nat):Zv S kind src inst ballot more (j+1)=vp (Zv S kind src inst ballot more j) (jn kind src j inst ballot more):=by
 unfold Zv;rw [List.range_succ,List.foldl_append];rfl
theorem Qd {S:zf}(h:zbe S)(kind src inst:Int)(ballot:Nat)(more:List UInt8):∀(j:Nat),j<=16->(Zv S kind src inst ballot more j).notes.length<=1000/\(Zv S kind src inst ballot more j).last<=S.last+j/\(Zv S kind src inst ballot more j).nodes=S.nodes
 |0,_=>⟨h.notes,N0 _,rfl⟩
 |j+1,hj=>by
  obtain⟨h1,h2,h3⟩:=Qd h kind src inst ballot more j (by omega);rw [Qc];have h4:=zg8 (Zv S kind src inst ballot more j) (jn kind src j inst ballot more) h1 (by have:=h.last;omega);exact⟨h4.1,by omega,h4.2.2.trans h3⟩
theorem ZY(B:Nat)(K:WK)(S:zf)(t:List Nat)(ht:t≠ [])(ow:Own)(k s:Nat)(hk:k<=31)(hs:s<16)(inst:Int)(ballot:Nat)(v:Value)(ts:List (List UInt8))(w:World)(h:zI B K S t ow w)(hg:zbe S)
 (hv:Src w v 1 ts.length (yR ts)) (hn:ts.length<=1000) (hl:ts.flatten.length<=900000) (hv0:∀a l c,v=.slice (some a) l c->ow a.block=[]):
 Calls prog 98 #[.pointer (some ⟨B,0,none⟩),.int .i64 k,.int .i64 s,x4 inst ballot,v] w (xK B K (j9 S k s inst ballot ts.flatten) t ow w (.tuple #[])):=by
 have ad:=λ(j:Nat) W hW=>Jh k s j inst ballot v ts W hW hn (by omega)
 have am:=λ(j:Nat) hj ow W b hW h1 h2 hb=>Qb B K (Zv S k s inst ballot ts.flatten j) t ow b k s j hk hs hj (x6 inst ballot ts.flatten) (by unfold x6;rw [N1,show(le4 (inst % 4294967296).toNat++le8 ballot).length=12 from rfl];omega) W hW h1 h2 hb
 obtain⟨N,hN⟩:∃N,S.nodes.length=N:=⟨_,rfl⟩;have au:N<=16:=by have:=hg.n0;omega
 have h':=h;obtain⟨a2,a3,ao⟩:=h';have ai:=ao.blk;have a0:=ai.lt;have aj:j9 S k s inst ballot ts.flatten=Zv S k s inst ballot ts.flatten N:=by unfold j9 Zv;rw [hN]
 rw [aj];have ac:=Qd hg k s inst ballot ts.flatten;have aa:=λ(j:Nat) h1=>(VW (S:=Zv S k s inst ballot ts.flatten j) h1 k s j inst ballot ts.flatten).trans (Qc S k s inst ballot ts.flatten j).symm
 have az:=hg.last;have af:Below w.heap.size w (w.alloc (.cells #[.int .i64 inst,.int .u64 (ballot:Nat)] 171)):=pbx;have ap:=(zI.loc B K S t).cut h af;have km:Blk (w.alloc (.cells #[.int .i64 inst,.int .u64 (ballot:Nat)] 171)) w.heap.size #[.int .i64 inst,.int .u64 (ballot:Nat)] 171:=Blk.new rfl;have ah:=hv.below af
 have ak:∀a l c,v=.slice (some a) l c->¬Sub t ((ow.cut w) a.block):=λa l c e=>by
  by_cases ad:a.block<w.heap.size
  ·rw [Own.cut_old ad,hv0 a l c e];exact zj ht
  rw [Own.cut_new (by omega)];exact zj ht
 obtain⟨w1,al⟩:∃w1,w1=w.alloc (.cells #[.int .i64 inst,.int .u64 (ballot:Nat)] 171):=⟨_,rfl⟩;have a1:w1.heap.size=w.heap.size+1:=by rw [al];simp
 rw [← al] at af ap km ah;have e0:=ai.cell;have e1:=(ai.call af).cell
 generalize hoc:ow.cut w=ow1 at*
 rw [hN] at e0 e1
 obtain⟨va,vn,vc,rfl⟩:∃a n c,v=.slice a n c:=by
  rcases hv.2 with⟨rfl, -⟩|⟨b,off,cap,rfl, -⟩<;>exact⟨_,_,_,rfl⟩
 unfold x4 at*;replace ad:=hid ad;replace am:=hid am;replace aj:=hid aj;replace ac:=hid ac;replace aa:=hid aa;replace ak:=hid ak;replace hoc:=hid hoc;replace ah:=hid ah;replace km:=hid km;clear hv hv0 h ai ao
 go_enter func98,ntmps98
 go_wp2;rw [← al]
 go_loopw [16] (λp16 wr=>∃(j:Nat)(ow':Own),p16=.int .i64 (j:Nat)/\j<=N/\zt t ow1 w1 ow' wr/\zI B K (Zv S k s inst ballot ts.flatten j) t ow' wr) (λp16 _=>N - (intOf p16).toNat)
 case atStart=>exact⟨0,ow1,rfl,by omega,zt.refl _ _ _,ap⟩
 case round=>
  obtain⟨j,ow',rfl,hj,ag,hW⟩:=hrel;clear e0 e1
  by_cases hjN:j<N
  ·have t2:decide ((j:Int)<(N:Int))=true:=by simpa using hjN
   have a4:IntKind.i64.wrap ((j:Int)+1)=(j:Int)+1:=by rw [N8];omega
   have ae:=ag;rw [← hoc.out] at ae;have hm:=ae.free ht (k:=w.heap.size) (N0 _) (by omega);have cm:=(km.out.kept hm.1).cell;have ax:=ah.out.step ag (λa l c e=>ak.out a l c e);go_wp2_with fail
   refine(ad.out j _ ax).mono ?_;rintro e w2⟨rfl,an⟩;unfold J5;have ar:=ac.out j (by omega);go_wp2_with fail
   refine(am.out j (by omega) ow' _ _ ((zI.loc B K _ t).below hW (zi an _)) ar.1 (by omega) (Blk.new rfl)).mono ?_;rintro e w3⟨rfl,aw,ay,aq⟩;rw [aa.out j (by omega)] at aq;clear cm;go_wp2
   go_roundw
   case rel=>exact⟨j+1,aw,by simp,by omega,ag.trans ((zt.of_below t ow' (zi an _)).trans ay),aq⟩
   case measure=>simp [intOf];omega
  obtain rfl:j=N:=by omega
  have t2:decide ((j:Int)<(j:Int))=false:=by simp
  go_wp2;go_end0
  have ae:=ag;rw [← hoc.out] at ae;exact⟨rfl,ow',zt.wrap af ae,hW⟩
theorem QH(b:Nat)(w:World):(binOp .eql 63 (.map (some b)) (.map none)).run prog w=.ok (.bool false) w:=by kernel_rfl
variable {B:Nat}{K:WK}{tv:Value}{lp:Nat->Option Nat}{S:zf}{t:List Nat}{ow:Own}
theorem YI(w:World)(h:zl B K tv lp S t ow w):Calls prog 26 #[.pointer (some ⟨B,0,none⟩)] w λe w'=>e=.returned (.bool false)/\w'=w:=by
 have e0:=h.blk.cell;have h0:=QH K.dm w;clear h
 go_enter func26,ntmps26
 go_wp2;go_ret
 exact⟨rfl,rfl⟩
theorem Qe(i:Int)(w:World)(h:zl B K tv lp S t ow w):Calls prog 31 #[.pointer (some ⟨B,0,none⟩),.int .i64 i] w λe w'=>e=.returned (.bool (decide (0<=i)&& decide (i<(S.nodes.length:Int))))/\w'=w:=by
 have e0:=h.blk.cell;clear h
 cases h0:decide (0<=i)
 ·go_enter func31,ntmps31
  go_wp2;go_ret
  exact⟨rfl,rfl⟩
 cases h1:decide (i<(S.nodes.length:Int))
 ·go_enter func31,ntmps31
  go_wp2;go_ret
  exact⟨rfl,rfl⟩
 go_enter func31,ntmps31
 go_wp2;go_ret
 exact⟨rfl,rfl⟩
theorem zen(k:Int)(w:World):Calls prog 30 #[.int .i64 k] w λe w'=>e=.returned (.bool (!(decide (3<=k)&& decide (k<=6))))/\w'=w:=by
 by_cases h:3<=k/\k<=6
 ·rw [show(!(decide (3<=k)&& decide (k<=6)))=false by simp;omega]
  rcases(by omega:k=3∨k=4∨k=5∨k=6)with rfl|rfl|rfl|rfl
  all_goals
   clear h
   go_enter func30,ntmps30
   go_wp2;go_ret
   exact⟨rfl,rfl⟩
 rw [show(!(decide (3<=k)&& decide (k<=6)))=true by simp;omega]
 have t1:(k==3)=false:=by simp;omega
 have t2:(k==4)=false:=by simp;omega
 have t3:(k==5)=false:=by simp;omega
 have t4:(k==6)=false:=by simp;omega
 clear h
 go_enter func30,ntmps30
 go_wp2;go_ret
 exact⟨rfl,rfl⟩
theorem JY(w:World)(h:zl B K tv lp S t ow w)(hn:S.notes.length<=1000):Calls prog 65 #[.pointer (some ⟨B,0,none⟩)] w λe w'=>e=.returned (.int .i64 (S.notes.length:Nat))/\Below w.heap.size w w':=by
 have hi:=YI w h;have ha:=zi0 K.fb S.last S.notes (t++ [16]) ow w h.flight hn;have e0:=h.blk.cell;replace hi:=hid hi;replace ha:=hid ha;clear h
 go_enter func65,ntmps65
 go_wp2_with fail
 refine hi.out.mono ?_;rintro e w1⟨rfl,aa⟩;obtain rfl:=aa.symm;go_wp2_with fail
 refine ha.out.mono ?_;rintro e w2⟨v',rfl,h1,h2⟩;obtain⟨a,m,c,hv⟩:=h1.shape
 have hm:m=S.notes.length:=by
  rcases h1.form with⟨h,h0, -⟩|⟨g,cap,h, -⟩
  ·rw [h] at hv;cases hv;exact h0.symm
  rw [h] at hv;cases hv;rfl
 subst hm;subst hv
 go_wp2;go_ret
 exact⟨rfl,h2⟩
def zml(S:zf)(p:Int):Nat×Bool:=if p<0 then(0,false)else match S.notes[p.toNat]? with
 |none=>(0,false)
 |some x=>(x.1,true)
end
section
open Go Go.RowKit Go.Shelf Go.Extern.Stop Go.Stop Go.Extern
attribute [local go_sem] Oper.semAt_some zB zp
theorem zkG(n:Nat)(b:Bool)(x:Int)(w:World):(Instr.checkKey b (n+1+1) 132 (.agg #[.int .i64 x])).run prog w=.ok () w:=by
 simp [Instr.checkKey,go_sem]
theorem zbf:qt prog 132 Vf where
 eq:=λk k' w=>by
  have h:(Op.equal 132 (Vf k) (Vf k')).run prog w=(Op.equalIn 10000 132 (.agg #[.int .i64 k]) (.agg #[.int .i64 k'])).run prog w:=rfl;rw [h];simp [go_sem]
  by_cases h1:k=k'<;>simp [h1]
 chk:=λb k w=>zkG 9998 b k w
 bits:=λk=>by simp [Vf,Instr.sameBits]
 now:=⟨_,Tryz.underlying132,λk k'=>by left;rfl⟩
theorem zkH(i j:Int)(a b:Nat)(w:World):(binOp .eql 171 (.agg #[.int .i64 i,.int .u64 (a:Nat)]) (.agg #[.int .i64 j,.int .u64 (b:Nat)])).run prog w=.ok (.bool (decide (i=j)&& decide (a=b))) w:=by
 have h:(Op.equalIn Op.maxDepth 171 (.agg #[.int .i64 i,.int .u64 (a:Nat)]) (.agg #[.int .i64 j,.int .u64 (b:Nat)])).run prog w=.ok (decide (i=j)&& decide (a=b)) w:=by
  have h2:(Op.equalIn (9998+1+1) 171 (.agg #[.int .i64 i,.int .u64 (a:Nat)]) (.agg #[.int .i64 j,.int .u64 (b:Nat)])).run prog w=.ok (decide (i=j)&& decide (a=b)) w:=by
   simp [go_sem]
   by_cases h1:i=j<;>by_cases h2:a=b<;>simp [h1,h2] <;>omega
  exact h2
 simp [binOp,Op.equal,h,Result.andThen,go_sem]
variable {B:Nat}{K:WK}{tv:Value}{lp:Nat->Option Nat}{S:zf}{t:List Nat}{ow:Own}
def zmw(p:Option Nat):Value:=.pointer (p.map λb=>⟨b,0,none⟩)
def VH(S:zf)(i:Nat)(inst:Int)(ballot:Nat):Bool:=match zE (i:Int) S.leads with
 |none=>false
 |some l=>decide (l.inst=inst)&& decide (l.ballot=ballot)
theorem Qf(i:Nat)(inst:Int)(ballot:Nat)(w:World)(h:zl B K tv lp S t ow w):Calls prog 203 #[.pointer (some ⟨B,0,none⟩),.int .i64 i,x4 inst ballot] w λe w'=>
 e=.returned (.tuple #[zmw (lp i),.bool (VH S i inst ballot)])/\Below w.heap.size w w':=by
 have hB:=h.blk;have ae:Below w.heap.size w (w.alloc (.cells #[.int .i64 inst,.int .u64 (ballot:Nat)] 171)):=pbx;have ai:=hB.call ae;obtain⟨-,ps, -,hM,af⟩:=h.leadsM;have aa:=h.lead i;have ad:=(hM.kept (ae.block _ hM.lt)).lookup_ok zbf Tryz.underlying58 (z:=.pointer none) (by kernel_rfl) (i:Int);rw [af i] at ad;unfold Vf at ad;have km:Blk (w.alloc (.cells #[.int .i64 inst,.int .u64 (ballot:Nat)] 171)) w.heap.size #[.int .i64 inst,.int .u64 (ballot:Nat)] 171:=Blk.new rfl;unfold VH zmw x4;have e0:=hB.cell;have l0:=hB.lt;clear hM h hB;replace af:=hid af
 cases hl:lp i with
 |none=>
  cases hk:zE (i:Int) S.leads with
  |some l=>rw [hl,hk] at aa;exact aa.elim
  |none=>
   rw [hl] at ad;simp only [Option.map_none,Option.getD_none,Option.isSome_none] at ad⊢;clear aa hk hl
   go_enter func203,ntmps203
   go_wp2_with fail
   refine zd [O 0,O 1,O 2,O 3,O 4,O 5,O 6,O 7,O 8,O 9,O 10,O 11] none (λw'=>True) trivial ?_
   refine We ?_
   refine Wj ?_
   refine We ?_
   refine ze ?_;go_wp2;go_ret2
   exact⟨rfl,zq ae⟩
 |some lb=>
  cases hk:zE (i:Int) S.leads with
  |none=>rw [hl,hk] at aa;exact aa.elim
  |some l=>
   rw [hl] at ad;rw [hl,hk] at aa;simp only [Option.map_some,Option.getD_some,Option.isSome_some] at ad⊢;obtain⟨-, -,pv,ag, -⟩:=aa;have ac:=ag.call ae;have c0:(w.alloc (.cells #[.int .i64 inst,.int .u64 (ballot:Nat)] 171)).cell? ⟨lb,0,none⟩=some (.int .i64 l.inst):=ac.cell 0;have c1:(w.alloc (.cells #[.int .i64 inst,.int .u64 (ballot:Nat)] 171)).cell? ⟨lb,1,none⟩=some (.int .u64 (l.ballot:Nat)):=ac.cell 1;have ah:=λW=>zkH l.inst inst l.ballot ballot W
   generalize(decide (l.inst=inst)&& decide (l.ballot=ballot))=bq at*
   generalize l.inst=li at*
   generalize l.ballot=lba at*
   clear hk hl ag ac
   go_enter func203,ntmps203
   go_wp2_with fail
   refine zd [O 0,O 1,O 2,O 3,O 4,O 5,O 6,O 7,O 8,O 9,O 10,O 11] none (λw'=>Blk w' w.heap.size #[.int .i64 inst,.int .u64 (ballot:Nat)] 171/\w'.cell? ⟨lb,0,none⟩=some (.int .i64 li)/\w'.cell? ⟨lb,1,none⟩=some (.int .u64 (lba:Nat))/\True) ⟨km.drew,c0,c1,trivial⟩ ?_
   (repeat (refine za (v:=?_) rfl rfl (λw' h=>?_) (λK k=>?_);rotate_left;obtain⟨f1,f2,f3,_⟩:=h;have e1:=f1.cell;go_simp;(try with_reducible rfl);go_simp;refine k _ ?_;clear k K))
   refine ze ?_;go_wp2;go_ret2
   exact⟨rfl,zq ae⟩
end
open Go Go.RowKit Go.Shelf Go.Extern.Stop Go.Stop Go.Extern
attribute [local go_sem] Oper.semAt_some zB zp
section
variable {pv:Value}{l:j8}
theorem QI(h1:l.promised.length=16){q:Nat}(hq:q<16):(zG pv l)[4+q]?=some (.bool (l.promised[q]?.getD false)):=by
 unfold zG;rw [U6 (by simp),U8 (by simp;omega),List.getElem?_map];simp only [List.length_cons,List.length_nil,Nat.add_sub_cancel_left];rw [N3 (by omega)];rfl
theorem QJ(h1:l.promised.length=16)(h2:l.voted.length=16){q:Nat}(hq:q<16):(zG pv l)[20+q]?=some (.bool (l.voted[q]?.getD false)):=by
 unfold zG;rw [U6 (by simp;omega),U6 (by simp;omega),U8 (by simp;omega),List.getElem?_map];simp only [List.length_cons,List.length_nil,List.length_map,h1];rw [show 20+q - (0+1+1+1+1) - 16=q by omega,N3 (by omega)];rfl
theorem vy(h1:l.promised.length=16)(h2:l.voted.length=16)(q:Nat):(zG pv l)[36+q]?=[Value.int .i64 (l.votes:Nat),.bool l.asked,.bool l.told][q]?:=by
 unfold zG;rw [U6 (by simp;omega),U6 (by simp;omega),U6 (by simp;omega)];simp only [List.length_cons,List.length_nil,List.length_map,h1,h2];rw [show 36+q - (0+1+1+1+1) - 16 - 16=q by omega]
theorem zcQ(h1:l.promised.length=16){q:Nat}(hq:q<16)(b:Bool):(zG pv l).set (4+q) (.bool b)=zG pv {l with promised:=l.promised.set q b} :=by
 unfold zG;rw [List.set_append_right _ _ (by simp),List.set_append_left _ _ (by simp;omega)];simp only [List.length_cons,List.length_nil,Nat.add_sub_cancel_left];rw [List.map_set]
theorem zcR(h1:l.promised.length=16)(h2:l.voted.length=16){q:Nat}(hq:q<16)(b:Bool):(zG pv l).set (20+q) (.bool b)=zG pv {l with voted:=l.voted.set q b} :=by
 unfold zG;rw [List.set_append_right _ _ (by simp;omega),List.set_append_right _ _ (by simp;omega),List.set_append_left _ _ (by simp;omega)];simp only [List.length_cons,List.length_nil,List.length_map,h1];rw [show 20+q - (0+1+1+1+1) - 16=q by omega,List.map_set]
theorem JZ(h1:l.promised.length=16)(h2:l.voted.length=16)(q:Nat)(u:Value):(zG pv l).set (36+q) u=[.int .i64 l.inst,.int .u64 (l.ballot:Nat),.string (bs l.value),pv] ++(l.promised.map Value.bool++(l.voted.map Value.bool++ [Value.int .i64 (l.votes:Nat),.bool l.asked,.bool l.told].set q u)):=by
 unfold zG;rw [List.set_append_right _ _ (by simp;omega),List.set_append_right _ _ (by simp;omega),List.set_append_right _ _ (by simp;omega)];simp only [List.length_cons,List.length_nil,List.length_map,h1,h2];rw [show 36+q - (0+1+1+1+1) - 16 - 16=q by omega]
theorem zbg(h1:l.promised.length=16)(h2:l.voted.length=16)(n:Nat):(zG pv l).set 36 (.int .i64 (n:Nat))=zG pv {l with votes:=n} :=JZ h1 h2 0 _
theorem zbh(h1:l.promised.length=16)(h2:l.voted.length=16)(b:Bool):(zG pv l).set 37 (.bool b)=zG pv {l with asked:=b} :=JZ h1 h2 1 _
theorem zcS(h1:l.promised.length=16)(h2:l.voted.length=16)(b:Bool):(zG pv l).set 38 (.bool b)=zG pv {l with told:=b} :=JZ h1 h2 2 _
end
theorem Blk.setL {w:World}{b o:Nat}{cs cs':List Value}{t:TypeId}(h:Blk w b cs.toArray t){v:Value}(he:cs.set o v=cs'):Blk (w.setCell ⟨b,o,none⟩ v) b cs'.toArray t:=by
 have h':=h.set (o:=o) v;rw [List.setIfInBounds_toArray,he] at h';exact h'
theorem Blk.cellL {w:World}{b:Nat}{cs:List Value}{t:TypeId}(h:Blk w b cs.toArray t){o:Nat}{v:Value}(he:cs[o]?=some v):w.cell? ⟨b,o,none⟩=some v:=by
 rw [h.cell,List.getElem?_toArray,he]
theorem Ji {lb:Nat}{l l':j8}{pv:Value}{u:List Nat}{ow:Own}{W W':World}(hB:Blk W lb (zG pv l).toArray 175)(hR:Row W 317 3 pv l.promises.length (l.promises.flatMap zN))(o1:ow lb=u)(o2:∀g,pv.ownBlock=some g->ow g=u)
 (hM:Mod (λk=>k=lb) W W') (hB':Blk W' lb (zG pv l').toArray 175) (hp:l'.promises=l.promises) (h1:l'.promised.length=16) (h2:l'.voted.length=16):zt u ow W ow W'/\YH lb l' u ow W':=by
 refine⟨⟨hM.mono (λk _ e=>by subst e;rw [o1];exact Sub.rfl' u),λ_ _=>rfl⟩,h1,h2,pv,hB',?_,o1,o2⟩;rw [hp];exact hR.mod hM (λg hg e=>hR.ne_blk hB (by decide) hg e)
variable {B:Nat}{K:WK}{tv:Value}{lp:Nat->Option Nat}{S:zf}{t:List Nat}{ow ow':Own}{W W':World}
theorem zl.setLead(h:zl B K tv lp S t ow W){i lb:Nat}{l1:j8}(hlp:lp i=some lb)(hs:zt (t++ [i+32]) ow W ow' W')(hL:YH lb l1 (t++ [i+32]) ow' W'):zl B K tv lp {S with leads:=put (i:Int) l1 S.leads} t ow' W':=by
 refine h.setPart (i+32) hs rfl (λj hj=>?_) ?_
 ·by_cases hj32:j<32
  ·unfold xg
   simp only [if_pos hj32]
  have aa:((j - 32:Nat):Int)≠(i:Int):=by omega
  unfold xg;simp only [ZU,if_neg aa]
 unfold xg
 rw [if_neg (by omega),if_neg (by omega),if_neg (by omega),if_neg (by omega),if_neg (by omega),if_neg (by omega),if_neg (by omega),if_neg (by omega),if_neg (by omega),Nat.add_sub_cancel];simp only [ZU,if_pos,hlp];exact hL
theorem zl.leadAt(h:zl B K tv lp S t ow W){i:Nat}{l:j8}(hl:zE (i:Int) S.leads=some l):∃lb,lp i=some lb/\YH lb l (t++ [i+32]) ow W:=by
 have:=h.lead i;rw [hl] at this
 cases hp:lp i with
 |none=>rw [hp] at this;exact this.elim
 |some lb=>rw [hp] at this;exact⟨lb,rfl,this⟩
