/- Parts: EngN EngO EngQ ELiB ELiv LENil -/
import Derived.Test.YtbhikkgpcmkonaaGreatDoorEn0
import Derived.Test.YtbhikkgpcmkonaaGreatDoorEn20
import Derived.Test.YtbhikkgpcmkonaaGreatDoorEn22
import Derived.Test.YtbhikkgpcmkonaaGreatDoorEn11
import Derived.Test.YtbhikkgpcmkonaaGreatDoorEn8
set_option maxRecDepth 100000
set_option maxHeartbeats 12800000
namespace Go.Proofs.YtbhikkgpcmkonaaGreatDoor
open Go.RowKit Go.Maps Go.WideMaps
structure aqV (p:aY) (lA:Option Addr) (lm:Nat) (xs:List dH) (bl gq bq last:Nat) (q:QX) (W:World):Prop where
 aU:p.At W
 arr:cu W 6 sG lA lm xs
 at_:∀x∈xs,x.At W
 lis:kL W bl gq bq q last
 lib:lT W
 utf:lS W
def tu (ge b:Nat) (gs:List GX) (k:Nat):Prop:=k=ge∨k=b∨∃x∈gs,k=x.gb∨k=x.cb
theorem aal (ge b:Nat) (gs:List GX) (w:World):sN (tu ge b gs) w gs:=fun x hx=>⟨.inl (.inr (.inr ⟨x,hx,.inl rfl⟩)),.inl (.inr (.inr ⟨x,hx,.inr rfl⟩))⟩
theorem nR.more {S T:Nat→Prop} {a b c:World} (h:nR S a b) (k:nR T b c) (ht:∀j,j < a.heap.size→T j→S j):nR S a c:=
 ⟨k.os.trans h.os,k.tape.trans h.tape,k.output.trans h.output,Nat.le_trans h.size k.size,fun j hj hn=>(k.block j (Nat.lt_of_lt_of_le hj h.size) (fun e=>hn (ht j hj e))).trans (h.block j hj hn)⟩
theorem Own.off {α:Type} {S:Nat→Prop} {w w':World} {b0 k:Nat} {e:TypeId} {enc:α→List Value} {v:Value} {xs:List α} (h:Own w b0 e k enc v xs) (hO:nR S w w') (hn:∀m,v.ownBlock=some m→¬S m):Own w' b0 e k enc v xs:=by
 refine⟨h.1,?_⟩;rcases h.2 with h2 | ⟨g,cap,cur,hv,hb,hh,r⟩
 ·exact .inl h2
 ·exact .inr ⟨g,cap,cur,hv,hb,(hO.block g (Dx hh) (hn g (by rw[hv];rfl))).trans hh,r⟩
theorem ag5 {fb:d_→Bool} {ft:List bK→d_→Bool} {p:jo} {rec:List UInt8} {xs:List dH} {lm:Nat} (hl:xs.length=lm) {q:Gf} {now:Int}:∀k∈xI fb ft p rec (xs.map (·.a)) q now,k<lm:=by
 intro k hk;unfold xI at hk;split at hk
 ·cases hk
 ·obtain⟨a,ha,-⟩:=Ot (List.mem_filter.1 hk).1;have:=(List.getElem?_eq_some_iff.1 ha).1;rw[List.length_map] at this;omega
theorem Sj {fb:d_→Bool} {ft:List bK→d_→Bool} {p:jo} {rec:List UInt8} {l:List jq} {q:Gf} {now:Int}:(xI fb ft p rec l q now).length≤l.length:=by
 unfold xI;split
 ·simp
 ·refine Nat.le_trans (List.length_filter_le ..) ?_;unfold vC;split
  ·refine Nat.le_trans (List.length_filter_le ..) ?_;unfold uU;refine Nat.le_trans (List.length_filter_le ..) ?_;rw[List.length_range];exact Nat.le_refl _
  ·simp
theorem akq {fb:d_→Bool} {ft:List bK→d_→Bool} {p:jo} {rec:List UInt8} {xs ys:List dH} {q:Gf} {now:Int} (h:ys=(xI fb ft p rec (xs.map (·.a)) q now).filterMap fun k=>xs[k]?) :
 ys.map (·.a)=Wj fb ft p rec (xs.map (·.a)) q now∧(∀y∈ys,y∈xs)∧ys.length≤xs.length:=by
 subst h;refine⟨?_,fun y hy=> ?_,?_⟩
 ·unfold Wj;rw[List.map_filterMap];congr 1
  funext k
  rw[List.getElem?_map]
 ·obtain⟨k,-,hk⟩:=List.mem_filterMap.1 hy;exact List.mem_of_getElem? hk
 ·refine Nat.le_trans (List.length_filterMap_le ..) ?_;have:=Sj (fb:=fb) (ft:=ft) (p:=p) (rec:=rec) (l:=xs.map (·.a)) (q:=q) (now:=now);rw[List.length_map] at this;exact this
theorem DK {w w':World} {b0:Nat} {gs:List dA} (h:Rn w b0 gs) (hg:ah w w'):Rn w' b0 gs:=fun x hx=>⟨(h x hx).1.grows hg,(h x hx).2.grows hg⟩
theorem sN.same {S:Nat→Prop} {w0:World} {gs gs':List GX} (h:sN S w0 gs) (hb:gs'.map (·.gb)=gs.map (·.gb)) (hc:gs'.map (·.cb)=gs.map (·.cb)):sN S w0 gs':=fun x hx=>by
 have h1:x.gb∈gs.map (·.gb):=by rw[←hb];exact List.mem_map.2 ⟨x,hx,rfl⟩
 have h2:x.cb∈gs.map (·.cb):=by rw[←hc];exact List.mem_map.2 ⟨x,hx,rfl⟩
 obtain⟨y,hy,e1⟩:=List.mem_map.1 h1;obtain⟨z,hz,e2⟩:=List.mem_map.1 h2;have a1:=(h y hy).1;have a2:=(h z hz).2;rw[e1] at a1;rw[e2] at a2;exact⟨a1,a2⟩
theorem dX.tkq {w w':World} {base:Nat} {x:iC} {T:List TypeId} (h:dX w base x) (hT:qM T w w') (h1:88∉T) (h2:65∉T):dX w' base x:=
 ⟨qM.own h.eY hT h1,qM.own h.ts hT h2,fun y hy=>⟨qM.own (h.at_ y hy).1 hT h1,(h.at_ y hy).2⟩,h.ble,h.UH,h.tle⟩
theorem nR.one {g:Nat} {a b:World} (h:nR (fun j=>j = g) a b):a.grownBy b (some g):=⟨h.os,h.tape,h.output,h.size,fun i hi hne=>h.block i hi (fun e=>hne (by rw[e]))⟩
def vO (fb:d_→Bool) (ft:List bK→d_→Bool) (p:aY) (rec:List UInt8) (w:World) (base ge b B:Nat) (n0 now:Int) (gs:List GX) (xs:List dH) (q:Gf) (e:Ending) (w':World):Prop:=
 ∃(v:Value) (ls:List iC) (gs':List GX),e =.returned (.tuple #[v,.int .i64 0])∧dG w' base ge b rec now (B+3456) gs'∧sN (tu ge b gs) w gs'∧Own w' w.heap.size 64 6 nC v ls∧(∀x∈ls,dX w' w.heap.size x)∧ls.length≤B+3456∧nR (tu ge b gs) w w'∧
  dK gs'=(yw fb ft p.aU rec ⟨n0,dK gs⟩ (xs.map (·.a)) q now).1.gs∧ls.map (·.I4)=(yw fb ft p.aU rec ⟨n0,dK gs⟩ (xs.map (·.a)) q now).2
theorem aky {fb:d_→Bool} {p:jo} {rec:List UInt8} {st:Eng} {now:Int} (h:Am fb p rec st now=0):st.now<now∧0≤now∧now≤dP∧fQ fb p = 0:=by
 unfold Am at h;split at h
 ·cases h
 ·split at h
  ·rename_i h1 h2;exact⟨ω,ω,ω,h2.2⟩
  ·cases h
theorem abt {fb:d_→Bool} {ft:List bK→d_→Bool} {p:aY} {base bl ge b B gq bq last:Nat} {rec:List UInt8} {n0 now:Int} {gs:List GX} {lA:Option Addr} {lm lk:Nat} {xs:List dH} {q:QX} (W:World)
 (NC:∀W',nR (tu ge b gs) W W'→aqV p lA lm xs bl gq bq last q W') (nN:jc fb p) (TJ:D8 ft p) (Ez:KW ft p) (hib:∀r∈p.i,r.bm≤1000000) (TD:p.im≤1000) (qE:Zf ft q) (hql:q.length≤60000)
 (hE:dG W base ge b rec n0 B gs) (hlb:base≤W.heap.size) (hB:B+3456≤1000000) (Iw:lm≤12) (aaI:Am fb p.aU rec ⟨n0,dK gs⟩ now=0) :
 Calls Tryz.prog 13 #[.pointer (some ⟨ge,0,none⟩),p.val,.slice lA lm lk,.pointer (some ⟨gq,0,none⟩),.int .i64 now] W (vO fb ft p rec W base ge b B n0 now gs xs (fC q last)):=by
 have hE0:=NC W (nR.refl _ _);obtain⟨aoQ,hn0,hn1,zH⟩:=aky aaI;simp only at aoQ;have hom:p.om≤12:=by
  have h1:=(JG (D6 zH).1).1;have h2:p.aU.routes.length=p.om:=by
   have:p.aU.routes=p.o.map (·.r):=rfl;rw[this,List.length_map,hE0.aU.o.1]
  omega
 have Fv:=hE0.arr.1;have cM:=ζ (fun W' (hW:ah W W')=>YA (fb:=fb) (p:=p) (st:=⟨n0,dK gs⟩) (now:=now) (b:=b) W' (hE0.aU.keep hW) nN (hE.blk.grows hW));rw[aaI] at cM;have cS:=ζ (fun W' (hW:nR (tu ge b gs) W W') (ED:aF W' ge 118 #[.string ⟨rec.toArray⟩,.map (some b),.int .i64 now])=>adf (fb:=fb) (ft:=ft) (lk:=lk) (now:=now) W' (NC W' hW).aU nN Ez hib TD (NC W' hW).arr (NC W' hW).at_ ω (NC W' hW).lis hql qE ED);have hP:vO fb ft p rec W base ge b B n0 now gs xs (fC q last)=fun e w'=>∃(v:Value) (ls:List iC) (gs':List GX),e =.returned (.tuple #[v,.int .i64 0])∧dG w' base ge b rec now (B+3456) gs'∧sN (tu ge b gs) W gs'∧Own w' W.heap.size 64 6 nC v ls∧(∀x∈ls,dX w' W.heap.size x)∧ls.length≤B+3456∧nR (tu ge b gs) W w'∧
  dK gs'=(zq fb ft p.aU rec ⟨n0,dK gs⟩ (xs.map (·.a)) (fC q last) now).gs.map (yX (zq fb ft p.aU rec ⟨n0,dK gs⟩ (xs.map (·.a)) (fC q last) now).asked now)∧ls.map (·.I4)=(zq fb ft p.aU rec ⟨n0,dK gs⟩ (xs.map (·.a)) (fC q last) now).out:=by
  funext e w'
  unfold vO yw;rw[if_pos aaI]
 rw[hP];clear hP;have bP0:=aF.new (W.alloc (.cells #[.pointer (some ⟨ge,0,none⟩)] 51)) 50 #[.slice p.s.A p.s.m p.s.k,.slice p.r.A p.r.m p.r.k,.slice p.e.A p.e.m p.e.k,.slice p.a.A p.a.m p.a.k,.slice p.oA p.om p.ok,.slice p.iA p.im p.ik];simp only[World.size_alloc] at bP0;have b1:=((aF.new W 51 #[.pointer (some ⟨ge,0,none⟩)]).alloc (.cells #[.slice p.s.A p.s.m p.s.k,.slice p.r.A p.r.m p.r.k,.slice p.e.A p.e.m p.e.k,.slice p.a.A p.a.m p.a.k,.slice p.oA p.om p.ok,.slice p.iA p.im p.ik] 50)).alloc (.cells #[.int .i64 now] 3);have b2:=bP0.alloc (.cells #[.int .i64 now] 3);have b4:=aF.yH W (.cells #[.pointer (some ⟨ge,0,none⟩)] 51) (.cells #[.slice p.s.A p.s.m p.s.k,.slice p.r.A p.r.m p.r.k,.slice p.e.A p.e.m p.e.k,.slice p.a.A p.a.m p.a.k,.slice p.oA p.om p.ok,.slice p.iA p.im p.ik] 50) 3 #[.int .i64 now];have hg0:ah W (((W.alloc (.cells #[.pointer (some ⟨ge,0,none⟩)] 51)).alloc (.cells #[.slice p.s.A p.s.m p.s.k,.slice p.r.A p.r.m p.r.k,.slice p.e.A p.e.m p.e.k,.slice p.a.A p.a.m p.a.k,.slice p.oA p.om p.ok,.slice p.iA p.im p.ik] 50)).alloc (.cells #[.int .i64 now] 3)):=(((ah.refl W).alloc _).alloc _).alloc _;unfold aY.val at *
 go_enter Tryz.func13,Tryz.ntmps13
 go_wp2_with fail;refine (cM.out _ hg0).mono ?_;rintro e w1 ⟨rfl,hb1⟩;have hg1:=hg0.trans hb1;replace b1:=b1.grows hb1;replace b2:=b2.grows hb1;replace b4:=b4.grows hb1;have J6:=hE.grows hg1;have hEA:=J6.akm (Int.le_of_lt aoQ);have kU:=aj w1 ⟨ge,2,none⟩ (.int .i64 now);have b1A:=b1.aP kU (fun e=>by injection e with e;exact b1.KX J6.blk δ e);have b2A:=b2.aP kU (fun e=>by injection e with e;exact b2.KX J6.blk δ e);have b4A:=b4.aP kU (fun e=>by injection e with e;exact b4.KX J6.blk δ e);have hOA:nR (tu ge b gs) W (w1.setCell ⟨ge,2,none⟩ (.int .i64 now)):=(hg1.off _).next kU (fun k hk=>by injection hk with hk;exact .inl (.inl hk.symm));have q1:=b1.c0;have Yt:=b1.lt;have q4:=b4.c0;have ZV:=b4.lt;have e2:=J6.blk.c2;have e2l:=J6.blk.lt;have e2f:=J6.blk.frozen 2;have q1A:(w1.setCell ⟨ge,2,none⟩ (.int .i64 now)).cell? ⟨W.heap.size,0,none⟩=some (.pointer (some ⟨ge,0,none⟩)):=b1A.cell 0;have e1A:(w1.setCell ⟨ge,2,none⟩ (.int .i64 now)).cell? ⟨ge,1,none⟩=some (.map (some b)):=hEA.blk.cell 1;have ahv:(w1.setCell ⟨ge,2,none⟩ (.int .i64 now)).heap.size=w1.heap.size:=by simp
 obtain⟨n,hnB,D,hown,hD⟩:=hEA.map;have Xi:=ζ hg1.size;replace NC:=ζ NC;replace b1:=ζ b1;replace b2:=ζ b2;replace b4:=ζ b4;replace b1A:=ζ b1A;replace b2A:=ζ b2A;replace b4A:=ζ b4A;replace hE:=ζ hE;replace hEA:=ζ hEA;replace hOA:=ζ hOA;replace ahv:=ζ ahv;clear hE0 J6 kU hg0 hg1 hb1 cM bP0;go_wp2_with (first
  | (at_range;refine wpList_range_own _ rfl _ 116 rfl 9 120 wU Tryz.underlying116 uY b n D rfl hown ?_;intro w3 hrg0 aaO hs0)
  | go_in)
 go_frame
 rw[ahv.o] at hrg0 hs0 ⊢;have iM:=hOA.o.next aaO (fun k hk=>by cases hk);have EC:=hEA.o.other aaO σ (fun m hm=>by cases hm);have abP:=b1A.out.aP aaO σ;have abO:=b2A.out.aP aaO σ;have afR:=b4A.out.aP aaO σ;have alu:∀cur te fz,w3.heap[b]?≠some (.cells cur te fz):=(show qI w3 b n (lY gs) from ⟨D,hrg0.owns,hD⟩).bg;have Qs:=lW hrg0;have TA:∀{g:Nat} {te:TypeId} {cs:Array Value},aF w3 g te cs→¬Zo b w1.heap.size g:=fun hB h=>by
  rcases h with rfl | rfl
  ·exact alu _ _ _ hB
  ·exact Qs _ _ _ hB
 have aoV:=TA abP;have aoU:=TA abO;have aoT:=TA afR;have hTw:∀j,j < W.heap.size→Zo b w1.heap.size j→tu ge b gs j:=fun j hj hT=>by
  rcases hT with rfl | rfl
  ·exact .inr (.inl rfl)
  ·have:=Xi.o;omega
 clear TA;replace iM:=ζ iM;replace EC:=ζ EC;replace abP:=ζ abP;replace abO:=ζ abO;replace afR:=ζ afR;replace hTw:=ζ hTw;refine afg (p:=p) (gs:=gs) (now:=now) (ζ (fun W' uK=>(NC.o W' (iM.o.more uK hTw.o)).aU)) abP abO EC hrg0 (ζ hD) hnB alu π ?_;intros
 rename_i wz hz;obtain⟨hzO,hzE⟩:=hz;have kF:=ζ (iM.o.more hzO.o hTw.o);have aiP:=ζ (hzO.o.blk abP.out aoV);have Rh:=ζ (hzO.o.blk abO.out aoU);have aiM:=ζ (hzO.o.blk afR.out aoT);have ahx:Hid (w3.heap.size≤wz.heap.size):=ζ hzO.o.size;have hsw:Hid (w1.heap.size≤w3.heap.size):=ζ ω;clear hrg0 aaO hs0 iM EC abP abO afR alu Qs aoV aoU aoT hTw hzO hD hown q1 Yt q4 ZV e2 e2l e2f q1A e1A hEA hOA b1A b2A b4A b1 b2 b4 ahv;generalize Qz:gs.filter (fun x=>qK p.aU x.g)=I9 at *
 have hg5:=ζ ((ah.refl wz).alloc (.cells #[.slice none 0 0] 59));have b5:=ζ (aF.new wz 59 #[.slice none 0 0]);have aqK:=ζ (aiP.out.grows hg5.o);have aqJ:=ζ (Rh.out.grows hg5.o);have afQ:=ζ (aiM.out.grows hg5.o);have Ub:=ζ (hzE.o.grows hg5.o);have mY:=ζ (kF.o.eP hg5.o);have cSx:=ζ (cS.out _ mY.o Ub.o.blk);have q1:=aiP.out.c0;have Yt:=aiP.out.lt;have q4:=aiM.out.c0;have ZV:=aiM.out.lt;have p0:=Rh.out.c0;have p1:=Rh.out.c1;have p2:=Rh.out.c2;have p3:=Rh.out.c3;have p4:=Rh.out.c4;have p5:=Rh.out.c5;have p2l:=Rh.out.lt;clear cS aiP Rh aiM kF hzE;unfold aY.val at cSx;go_wp2_with fail;refine (cSx.out).mono ?_;rintro e w6 ⟨v6,rfl,hOX,sZ⟩;have apF:=ag5 (fb:=fb) (ft:=ft) (p:=p.aU) (rec:=rec) Fv (q:=fC q last) (now:=now);have hXl:(xI fb ft p.aU rec (xs.map (·.a)) (fC q last) now).length≤1000000:=by
  have:=Sj (fb:=fb) (ft:=ft) (p:=p.aU) (rec:=rec) (l:=xs.map (·.a)) (q:=fC q last) (now:=now);rw[List.length_map] at this;omega
 have apT:=ζ (fun (ys:List dH) (h:ys=(xI fb ft p.aU rec (xs.map (·.a)) (fC q last) now).filterMap fun k=>xs[k]?)=>akq h);generalize hXe:xI fb ft p.aU rec (xs.map (·.a)) (fC q last) now=X at *
 obtain⟨A60,c60,rfl,-,-,-⟩:=hOX.arr Xt;have uF:=ζ (mY.o.eP sZ);have ama:=ζ (aqK.out.grows sZ);have al_:=ζ (aqJ.out.grows sZ);have al9:=ζ (afQ.out.grows sZ);have UQ:=ζ (b5.out.grows sZ);have hE6:=ζ (Ub.o.grows sZ);have hT6:Hid (∀j,j < W.heap.size→j = wz.heap.size→tu ge b gs j):=ζ (fun j hj e=>by have:=Xi.o;have:=ahx.o;have:=hsw.o;omega);have hA6:=ζ (fun W' (uK:nR (fun j=>j = wz.heap.size) w6 W')=>(NC.o W' (uF.o.more uK hT6.o)).arr);have hX6:=ζ (fun W' (uK:nR (fun j=>j = wz.heap.size) w6 W')=>(hOX.off uK (fun m hm e=>aV hOX UQ.out δ (by rw[hm,e]))).zL Xt);have ahw:Hid (wz.heap.size≤w6.heap.size):=ζ (Nat.le_trans hg5.o.size sZ.size);clear cSx hOX sZ hg5 aqK aqJ afQ b5 Ub mY q1 Yt q4 ZV p0 p1 p2 p3 p4 p5 p2l;go_wp2;refine aff (lk:=lk) (c60:=c60) hX6 hA6 (ζ apF) UQ hXl π ?_;intros
 rename_i wk hk2;obtain⟨v5,ys,aiJ,hOy,hys,vT⟩:=hk2;obtain⟨xO,hyx,Ox⟩:=apT.o ys hys.o;obtain⟨yA,yk,rfl,-,-,-⟩:=hOy.o.arr aaL;have Vg:=ζ (uF.o.more vT.o hT6.o);have aiO:=ζ (vT.o.blk ama.out (ama.out.KX UQ.out δ));have Rf:=ζ (vT.o.blk al_.out (al_.out.KX UQ.out δ));have aiL:=ζ (vT.o.blk al9.out (al9.out.KX UQ.out δ));have OJ:Hid (dG wk base ge b rec now B I9):=ζ (hE6.o.other vT.o.one (fun e=>by
  injection e with e
  obtain⟨n2,-,K_⟩:=hE6.o.map;exact K_.bg _ _ _ (by rw[e];exact UQ.out)) (fun m hm cur te fz hc=>by injection hm with hm;subst hm;rw[UQ.out.qJ hc];decide))
 have akP:Hid (W.heap.size≤wk.heap.size):=ζ Vg.o.size;have ad6:ys.length≤12:=ω;replace xO:=ζ xO;replace hyx:=ζ hyx;clear hX6 hA6 hT6 hXe apF hXl apT uF ama al_ al9 UQ hE6 hys vT;have hmm:= @run_makeMap Tryz.prog;have iE:=ζ ((((ah.refl wk).alloc (.map #[] 0)).alloc (.cells #[.map (some wk.heap.size)] 122)).alloc (.cells #[.slice none 0 0] 53));have b3:=ζ ((aF.ou wk (.map #[] 0) 122 #[.map (some wk.heap.size)]).alloc (.cells #[.slice none 0 0] 53));have b6:=ζ (aF.yH wk (.map #[] 0) (.cells #[.map (some wk.heap.size)] 122) 53 #[.slice none 0 0]);have hAM:Hid (lZ (((wk.alloc (.map #[] 0)).alloc (.cells #[.map (some wk.heap.size)] 122)).alloc (.cells #[.slice none 0 0] 53)) wk.heap.size 0 []):=ζ ⟨0,Nat.le_refl _,((gK.made wk Tryz.prog 9 4).alloc _).alloc _⟩;have q1:=aiO.out.c0;have Yt:=aiO.out.lt;have q4:=aiL.out.c0;have ZV:=aiL.out.lt;have q5:=aiJ.out.c0;have q5l:=aiJ.out.lt;have e0:=OJ.o.blk.c0;have e0l:=OJ.o.blk.lt;have p0:=Rf.out.c0;have p1:=Rf.out.c1;have p2:=Rf.out.c2;have p3:=Rf.out.c3;have p4:=Rf.out.c4;have p5:=Rf.out.c5;have p2l:=Rf.out.lt;go_wp2;clear q1 Yt q4 ZV q5 q5l e0 e0l p0 p1 p2 p3 p4 p5 p2l hmm;have atj:Hid (wk.heap.size≠b):=ζ (fun e=>by
  obtain⟨n2,-,K_⟩:=OJ.o.map;have:=K_.lt;omega)
 have hO9:=ζ (Vg.o.eP iE.o);have aiN:=ζ (aiO.out.grows iE.o);have Q_:=ζ (Rf.out.grows iE.o);have aiK:=ζ (aiL.out.grows iE.o);have aiI:=ζ (aiJ.out.grows iE.o);have Ry:=ζ (OJ.o.grows iE.o);have alF:=ζ ((hOy.o.grows iE.o).bH (show W.heap.size≤w6.heap.size by have:=ahw.o;have:=Xi.o;have:=hsw.o;have:=ahx.o;omega));have asU:=ζ iE.o.size;clear aiO Rf aiL aiJ OJ hOy Vg iE;generalize ((wk.alloc (.map #[] 0)).alloc (.cells #[.map (some wk.heap.size)] 122)).alloc (.cells #[.slice none 0 0] 53)=w8 at *
 have cG:=ζ (fun W' (hW:ah w8 W')=>XL (fb:=fb) (ft:=ft) (rec:=rec) (lk:=yk) (now:=now) W' (NC.o W' (hO9.o.eP hW)).lib (NC.o W' (hO9.o.eP hW)).aU nN TJ ((alF.o.grows hW).zL aaL) (fun a ha=>(NC.o W' (hO9.o.eP hW)).at_ a (hyx.o a ha)) ω);unfold aY.val at cG;have hSK:Hid (∀W',nR (tu ge b gs) W W'→af2 p ys W'):=ζ (fun W' uK=>⟨(NC.o W' uK).aU,fun y hy=>(NC.o W' uK).at_ y (hyx.o y hy),(NC.o W' uK).lib,(NC.o W' uK).utf⟩);have q1:=aiN.out.c0;have Yt:=aiN.out.lt;have q4:=aiK.out.c0;have ZV:=aiK.out.lt;have q5:=aiI.out.c0;have q5l:=aiI.out.lt;have e0:=Ry.o.blk.c0;have e0l:=Ry.o.blk.lt;have p0:=Q_.out.c0;have p1:=Q_.out.c1;have p2:=Q_.out.c2;have p3:=Q_.out.c3;have p4:=Q_.out.c4;have p5:=Q_.out.c5;have p2l:=Q_.out.lt;have aS:=ζ (ah.refl w8);have OD:=ζ (And.intro Ez (And.intro hib (And.intro TD (And.intro qE hql))));replace nN:=ζ nN;replace TJ:=ζ TJ;clear Ez hib TD qE hql NC;refine aH κ ?_;refine rK [0,1,2,3,4,5,6,9] 2 ?_;iterate 8 refine aC ?_
 refine aB ?_;refine aK [7] κ σ (fun wN hN hS=>(ay.cons rfl (fun K' hK=> ?_) ay.nil));try replace aS:=ζ (aS.o.trans hN)
 try replace hOG:=ζ (Own.grows hOG.o hN)
 try replace hGs:=ζ (DK hGs.o hN)
 clear hN;go_simp;refine (cG.out _ aS.o).mono ?_;rintro e w9 ⟨vG,G,rfl,hOG,hGs,hGm,TR⟩;have hbG:=ζ (show W.heap.size≤wN.heap.size by have:=akP.o;have:=aS.o.size;have:=asU.o;omega);obtain⟨A83,c83,rfl,-,-,-⟩:=Own.arr hOG YL;replace hOG:=ζ hOG;replace hGs:=ζ hGs;replace hGm:=ζ hGm;replace aS:=ζ (aS.o.trans TR);refine hK.o _ _ ?_ (fun hS=> ?_)
 ·exact aS.o
 clear TR;clear hK hS;refine rK [8] 0 ?_;iterate 1 refine aC ?_
 refine aB ?_;refine aJ κ (fun wN hN hS=> ?_);try replace aS:=ζ (aS.o.trans hN)
 try replace hOG:=ζ (Own.grows hOG.o hN)
 try replace hGs:=ζ (DK hGs.o hN)
 clear q1 Yt q4 ZV q5 q5l e0 e0l p0 p1 p2 p3 p4 p5 p2l cG hS hN;have asT:=ζ aS.o.size;have zU:Hid (lG (tu ge b gs) W wN p.cells.toArray ge wk.heap.size now yA ys.length yk ys W.heap.size (W.heap.size+1) (wk.heap.size+1) (W.heap.size+1+1) wz.heap.size (wk.heap.size+1+1) (.slice none 0 0) []):=
  ζ ⟨hO9.o.eP aS.o,aiN.out.grows aS.o,Q_.out.grows aS.o,b3.out.grows aS.o,aiK.out.grows aS.o,aiI.out.grows aS.o,b6.out.grows aS.o,(by have:=akP.o;omega),alF.o.grows aS.o,Own.jA _ _ _ _ _,fun x hx=>(List.not_mem_nil hx).elim⟩
 have hE9:=ζ (Ry.o.grows aS.o);have Iz:Hid (sN (tu ge b gs) W I9):=ζ (fun x hx=>aal ge b gs W x (by rw[←Qz] at hx;exact (List.mem_filter.1 hx).1));have aqb:Hid (lZ wN wk.heap.size B []):=ζ (by
  obtain⟨n2,h2,h3⟩:=hAM.o.grows aS.o;exact⟨n2,ω,h3⟩)
 obtain⟨hgd,Az⟩:=Uf fb ft p.aU rec (ys.map (·.a)) now;have zS:Hid (∀x∈G,KU p.aU 12 x.g):=ζ (fun x hx=>(hgd x.g (by rw[←hGm.o];exact List.mem_map.2 ⟨x,hx,rfl⟩)).more (by rw[List.length_map];exact ad6));have hGl:G.length≤3456:=by
  rw[←hGm.o,List.length_map,List.length_map] at Az;omega
 have hks:=ζ (And.intro hGm.o (And.intro xO.o Ox));clear hgd Az aiN Q_ aiK aiI b3 b6 Ry hAM alF hO9 aS hGm xO Ox hyx;go_wp2;refine afe (fb:=fb) (p:=p) (S:=tu ge b gs) (w0:=W) (B:=B) (gs:=I9) (G:=G) hSK nN zU hE9 Iz aqb atj.o akP.o (ζ (.inr (.inl rfl))) hlb (ζ ω) hn0 (ζ hn1) ad6 hOG hGs hbG.o zS π ?_;intros
 rename_i wl hl3;obtain⟨gs3,v3,ls3,Nw,EC,alH,hM3,ao3,Dv,ao2⟩:=hl3;have Xn:zq fb ft p.aU rec ⟨n0,dK gs⟩ (xs.map (·.a)) (fC q last) now=zo (fun x n=>jW fb p.aU rec x (ys.map (·.a)) n now) p.aU now (dK I9) G G.length:=by
  obtain⟨h1,h2,-⟩:=hks.o;unfold zq zo;rw[List.take_length,h1,←h2,←Qz,aa2]
 replace Xn:=ζ Xn;clear hks Qz hSK nN TJ OD zS hGs hOG hbG Iz aqb hE9 zU asT Iw Fv ad6;generalize zo (fun x n=>jW fb p.aU rec x (ys.map (·.a)) n now) p.aU now (dK I9) G G.length=T at *
 obtain⟨n4,ax9,D4,ajc,hD4⟩:=EC.o.map;have q1:=Nw.o.b1.c0;have Yt:=Nw.o.b1.lt;have e1:=EC.o.blk.c1;have e1l:=EC.o.blk.lt;go_wp2_with (first
  | (at_range;refine wpList_range_own _ rfl _ 116 rfl 9 120 wU Tryz.underlying116 uY b n4 D4 rfl ajc ?_;intro w5 Xl QA hs5)
  | go_in)
 go_frame
 have mY:=ζ (Nw.o.off.next QA (fun k hk=>by cases hk));have Ub:=ζ (EC.o.other QA σ (fun m hm=>by cases hm));have aqI:=ζ (Nw.o.b3.aP QA σ);have afQ:=ζ (Nw.o.b4.aP QA σ);have aqH:=ζ (Nw.o.b6.aP QA σ);have hM5:=ζ (hM3.o.kept QA σ);have aju:=ζ (Nw.o.out.kept' QA (fun j hj=>by cases hj));have aeO:=ζ (fun x hx=>(Nw.o.outs x hx).row QA (fun m hm=>by cases hm));have asR:=ζ Nw.o.off.size;clear q1 Yt e1 e1l Nw EC hM3 ajc QA hs5;refine afd (base:=base) (ge:=ge) (rec:=rec) (now:=now) (gs:=gs3) (asked:=T.asked) (ab:=wk.heap.size) (B:=B+G.length) aqI afQ hM5 Ub Xl (ζ hD4) hn0 (ζ hn1) π ?_;intros
 rename_i wm hm4;obtain⟨gs4,hE4,hg4,aph,apz,kF,Xz⟩:=hm4;have al8:=Xz.o.blk aqH.out δ;have q6:=al8.c0;have q6l:=al8.lt;have ajl:Hid (nR (tu ge b gs) W wm):=ζ (mY.o.more kF.o (fun j hj hT=>by
  rcases hT with rfl | ⟨x,hx,rfl⟩
  ·have:=asR.o;omega
  ·rcases (alH.o x hx).2 with h1 | h1
   ·exact h1
   ·omega))
 have aO:Hid (∃(v:Value) (ls:List iC) (gs':List GX),(.returned (.tuple #[v3,.int .i64 0]):Ending)=.returned (.tuple #[v,.int .i64 0])∧dG wm base ge b rec now (B+3456) gs'∧sN (tu ge b gs) W gs'∧Own wm W.heap.size 64 6 nC v ls∧(∀x∈ls,dX wm W.heap.size x)∧ls.length≤B+3456∧nR (tu ge b gs) W wm∧dK gs'=T.gs.map (yX T.asked now)∧ls.map (·.I4)=T.out):=
  ζ ⟨v3,ls3,gs4,rfl,hE4.o.more ω,alH.o.same aph.o apz.o,qM.own aju.o Xz.o δ,fun x hx=>(aeO.o x hx).tkq Xz.o δ δ,by have:=ao3.o;omega,ajl.o,by rw[hg4.o,Dv.o],ao2.o⟩
 clear hE4 hg4 aph apz kF Xz ajl mY Ub aqI afQ aqH hM5 aju aeO alH ao3 Dv ao2 al8 Xl hD4;go_wp2;go_ret2;rw[Xn.o];exact aO.o
section
variable {w w' w0:World} {base bl ge b B gq bq last:Nat} {rec:List UInt8} {now:Int} {gs:List GX} {q:QX}
theorem afl (hE:dG w base ge b rec now B gs) {g:Nat} {te:TypeId} {cs:Array Value} (hB:aF w g te cs) (ht:te∉aik):¬tu ge b gs g:=fun h=>by
 have hT:∀{g':Nat} {t':TypeId} {cs':Array Value},aF w g' t' cs'→t'∈aik→g≠g':=fun ED ht'=>hB.KX ED (fun e=>ht (e ▸ ht'))
 rcases h with h | h | ⟨x,hx,h | h⟩
 ·exact hT hE.blk δ h
 ·obtain⟨n,-,hM⟩:=hE.map;exact hM.bg _ _ _ (by rw[←h];exact hB)
 ·exact hT (hE.at_ x hx).blk δ h
 ·exact hT (hE.at_ x hx).iR.blk δ h
theorem afk (hE:dG w base ge b rec now B gs) {g:Nat} (hg:g≠b) (hm:∀cur e fz,w.heap[g]?≠some (.cells cur e fz)):¬tu ge b gs g:=fun h=>by
 rcases h with h | h | ⟨x,hx,h | h⟩
 ·exact hm _ _ _ (by rw[h];exact hE.blk)
 ·exact hg h
 ·exact hm _ _ _ (by rw[h];exact (hE.at_ x hx).blk)
 ·exact hm _ _ _ (by rw[h];exact (hE.at_ x hx).iR.blk)
theorem QY (hE:dG w base ge b rec now B gs) {k:Nat} (h:tu ge b gs k):base≤k:=by
 rcases h with h | h | ⟨x,hx,h | h⟩
 ·rw[h];exact hE.ege
 ·rw[h];exact hE.bge
 ·rw[h];exact (hE.at_ x hx).gge
 ·rw[h];exact (hE.at_ x hx).cge
theorem nR.grown {S:Nat→Prop} (h:nR S w w') (hg:ah w0 w) (hS:∀k,S k→w0.heap.size≤k):ah w0 w':=
 hg.eP ⟨h.os,h.tape,h.output,h.size,fun k hk=>h.block k (Nat.lt_of_lt_of_le hk hg.size) (fun e=>by have:=hS k e;omega)⟩
theorem kL.asA {S:Nat→Prop} (h:kL w bl gq bq q last) (hO:nR S w w') (h1:¬S gq) (h2:¬S bq) (h3:∀x∈q,∀m,(Value.slice x.2.A x.2.m x.2.k).ownBlock=some m→¬S m):kL w' bl gq bq q last:=by
 refine⟨hO.blk h.blk h1,?_,h.asc,h.le,h.top,fun x hx=>(h.Qe x hx).off hO (h3 x hx),h.ok⟩;have hl:=h.map.lt;obtain⟨es,clock,he,hr⟩:=h.map;exact⟨es,clock,(hO.block bq hl h2).trans he,hr⟩
theorem kL.off (h:kL w bl gq bq q last) (hE:dG w base ge b rec now B gs) (hne:bq≠b) (hO:nR (tu ge b gs) w w'):kL w' bl gq bq q last:=
 h.asA hO (afl hE h.blk δ) (afk hE hne h.map.bg) (fun x hx m hm=>by
  obtain⟨cur,hc⟩:=bD (h.Qe x hx) hm;intro hS;rcases hS with e | e | ⟨y,hy,e | e⟩
  ·exact aV (h.Qe x hx) hE.blk δ (by rw[hm,e])
  ·obtain⟨n,-,hM⟩:=hE.map;exact hM.bg _ _ _ (by rw[←e];exact hc)
  ·exact aV (h.Qe x hx) (hE.at_ y hy).blk δ (by rw[hm,e])
  ·exact aV (h.Qe x hx) (hE.at_ y hy).iR.blk δ (by rw[hm,e]))
end
theorem XT {fb:d_→Bool} {ft:List bK→d_→Bool} {p:aY} {base bl ge b B gq bq last:Nat} {rec:List UInt8} {n0 now:Int} {gs:List GX} {lA:Option Addr} {lm lk:Nat} {xs:List dH} {q:QX} (w0 W:World) (hW:ah w0 W) (hb:w0.heap.size≤base) (he:lT w0) (hu:lS w0) (hp:p.At w0) (hat:∀x∈xs,x.At w0)
 (hA:∀W',nR (tu ge b gs) W W'→cu W' 6 sG lA lm xs) (hL:kL W bl gq bq q last) (hne:bq≠b) (nN:jc fb p) (TJ:D8 ft p) (Ez:KW ft p) (hib:∀r∈p.i,r.bm≤1000000) (TD:p.im≤1000) (qE:Zf ft q) (hql:q.length≤60000)
 (hE:dG W base ge b rec n0 B gs) (hlb:base≤W.heap.size) (hB:B+3456≤1000000) (Iw:lm≤12) (aaI:Am fb p.aU rec ⟨n0,dK gs⟩ now=0) :
 Calls Tryz.prog 13 #[.pointer (some ⟨ge,0,none⟩),p.val,.slice lA lm lk,.pointer (some ⟨gq,0,none⟩),.int .i64 now] W (vO fb ft p rec W base ge b B n0 now gs xs (fC q last)):=by
 refine abt (bl:=bl) (gq:=gq) (bq:=bq) (last:=last) W (fun W' uK=> ?_) nN TJ Ez hib TD qE hql hE hlb hB Iw aaI;have hg:=uK.grown hW (fun k hk=>Nat.le_trans hb (QY hE hk));exact⟨hp.keep hg,hA W' uK,fun x hx=>(hat x hx).keep hg,hL.off hE hne uK,he.grows hg,hu.grows hg⟩
theorem afc {fb:d_→Bool} {p:aY} {rec:List UInt8} {st:Eng} {now:Int} {ge b:Nat} {lv sv:Value} (W:World) (hp:p.At W) (nN:jc fb p) (hE:aF W ge 118 #[.string ⟨rec.toArray⟩,.map (some b),.int .i64 st.now]) (aaI:Am fb p.aU rec st now≠0) :
 Calls Tryz.prog 13 #[.pointer (some ⟨ge,0,none⟩),p.val,lv,sv,.int .i64 now] W fun e W'=>e =.returned (.tuple #[.slice none 0 0,.int .i64 (Am fb p.aU rec st now)])∧ah W W':=by
 have cM:=ζ (fun W' (hW:ah W W')=>YA (fb:=fb) (p:=p) (st:=st) (now:=now) (b:=b) W' (hp.keep hW) nN (hE.grows hW));have hg0:ah W (((W.alloc (.cells #[.pointer (some ⟨ge,0,none⟩)] 51)).alloc (.cells #[.slice p.s.A p.s.m p.s.k,.slice p.r.A p.r.m p.r.k,.slice p.e.A p.e.m p.e.k,.slice p.a.A p.a.m p.a.k,.slice p.oA p.om p.ok,.slice p.iA p.im p.ik] 50)).alloc (.cells #[.int .i64 now] 3)):=(((ah.refl W).alloc _).alloc _).alloc _;generalize Am fb p.aU rec st now=M at *
 replace hg0:=ζ hg0;unfold aY.val at *
 clear hp hE;go_enter Tryz.func13,Tryz.ntmps13
 go_wp2_with fail;refine (cM.out _ hg0.o).mono ?_;rintro e w1 ⟨rfl,hb1⟩;have hG:=ζ (hg0.o.trans hb1);clear hg0 hb1 cM;go_wp2;go_ret2;exact⟨rfl,hG.o⟩
section
variable {p:aY} {now:Int} {lv sv:Value} (w:World)
theorem ahj:Calls Tryz.prog 41 #[.pointer none,p.val,.int .i64 now] w fun e w'=>e =.returned (.int .i64 1)∧ah w w':=by
 unfold aY.val;go_enter Tryz.func41,Tryz.ntmps41
 go_wp2;go_ret;refine⟨rfl,?_⟩;exact Γ
theorem abr:Calls Tryz.prog 13 #[.pointer none,p.val,lv,sv,.int .i64 now] w fun e w'=>e =.returned (.tuple #[.slice none 0 0,.int .i64 1])∧ah w w':=by
 have cM:=ζ (fun W=>ahj (p:=p) (now:=now) W);have hg0:ah w (((w.alloc (.cells #[.pointer none] 51)).alloc (.cells #[.slice p.s.A p.s.m p.s.k,.slice p.r.A p.r.m p.r.k,.slice p.e.A p.e.m p.e.k,.slice p.a.A p.a.m p.a.k,.slice p.oA p.om p.ok,.slice p.iA p.im p.ik] 50)).alloc (.cells #[.int .i64 now] 3)):=(((ah.refl w).alloc _).alloc _).alloc _;replace hg0:=ζ hg0;unfold aY.val at *
 go_enter Tryz.func13,Tryz.ntmps13
 go_wp2_with fail;refine (cM.out _).mono ?_;rintro e w1 ⟨rfl,hb1⟩;have hG:=ζ (hg0.o.trans hb1);clear hg0 hb1 cM;go_wp2;go_ret2;exact⟨rfl,hG.o⟩
theorem abu:Calls Tryz.prog 21 #[.pointer none,p.val,.slice none 0 0,.pointer none,.int .i64 now] w fun e w'=>e =.returned (.slice none 0 0)∧ah w w':=by
 unfold aY.val;go_enter Tryz.func21,Tryz.ntmps21
 go_wp2;go_ret;refine⟨rfl,?_⟩;exact Γ
theorem Ku:Calls Tryz.prog 18 #[.pointer none] w fun e w'=>e =.returned (.int .i64 0)∧ah w w':=by
 go_enter Tryz.func18,Tryz.ntmps18
 go_wp2;go_ret;exact⟨rfl,ah.refl _⟩
theorem yZ:Calls Tryz.prog 19 #[.pointer none] w fun e w'=>e =.returned (.int .i64 0)∧ah w w':=by
 go_enter Tryz.func19,Tryz.ntmps19
 go_wp2;go_ret;exact⟨rfl,ah.refl _⟩
theorem uG:Calls Tryz.prog 20 #[.pointer none] w fun e w'=>e =.returned (.string ⟨#[]⟩)∧ah w w':=by
 go_enter Tryz.func20,Tryz.ntmps20
 go_wp2;go_ret;exact⟨rfl,ah.refl _⟩
theorem afi {ge b:Nat} {rec:List UInt8} {n0:Int} (hE:aF w ge 118 #[.string ⟨rec.toArray⟩,.map (some b),.int .i64 n0]):Calls Tryz.prog 18 #[.pointer (some ⟨ge,0,none⟩)] w fun e w'=>e =.returned (.int .i64 (max n0 0))∧ah w w':=by
 have e2:=hE.c2;have el:=hE.lt;go_enter Tryz.func18,Tryz.ntmps18
 go_wp2;go_ret;exact⟨rfl,ah.refl _⟩
theorem G7 {base ge b B:Nat} {rec:List UInt8} {n0:Int} {gs:List GX} (hE:dG w base ge b rec n0 B gs):Calls Tryz.prog 19 #[.pointer (some ⟨ge,0,none⟩)] w fun e w'=>e =.returned (.int .i64 (gs.length:Int))∧ah w w':=by
 obtain⟨n,-,hM⟩:=hE.map;have hlen:=fun ty=>hM.len ty
 have Az:(lY gs).length=gs.length:=List.length_map ..;rw[Az] at hlen;have e1:=hE.blk.c1;have el:=hE.blk.lt;clear hM hE Az;go_enter Tryz.func19,Tryz.ntmps19
 go_wp2;go_ret;exact⟨rfl,ah.refl _⟩
end
theorem adI {α β:Type} {f:α→β} {l:List α} {y:β} (h:l.map f = [y]):∃x,l = [x]∧f x = y:=by
 match l,h with
 | [],h=>cases h
 | [x],h=>exact⟨x,rfl,by simpa using h⟩
 | _ ::_ ::_,h=>simp at h
theorem ao7 (x:iC):(nC x).length=6:=rfl
def U0 (w0 W:World) (base ge b B:Nat) (rec:List UInt8) (now:Int) (R:Eng×List KT) (e:Ending) (W':World):Prop:=
 ∃(A:Option Addr) (c:Nat) (ls:List iC) (gs':List GX),e =.returned (.tuple #[.slice A ls.length c,.int .i64 0])∧dG W' base ge b rec now (B+3456) gs'∧dK gs'=R.1.gs∧ls.map (·.I4)=R.2∧Own W' W.heap.size 64 6 nC (.slice A ls.length c) ls∧(∀x∈ls,dX W' W.heap.size x)∧Below w0.heap.size W W'
theorem vO.told {fb:d_→Bool} {ft:List bK→d_→Bool} {p:aY} {rec:List UInt8} {w0 w w':World} {base ge b B:Nat} {n0 now:Int} {gs:List GX} {xs:List dH} {q:Gf} {e:Ending} {R:Eng×List KT} (h:vO fb ft p rec w base ge b B n0 now gs xs q e w') (hE:dG w base ge b rec n0 B gs) (hW:w0.heap.size≤w.heap.size) (hb:w0.heap.size≤base)
 (hR:yw fb ft p.aU rec ⟨n0,dK gs⟩ (xs.map (·.a)) q now=R):U0 w0 w base ge b B rec now R e w':=by
 obtain⟨v,ls,gs',rfl,h1,h2,h3,h4,h5,h6,h7,h8⟩:=h;rw[hR] at h7 h8;obtain⟨A,c,rfl,-,-,-⟩:=h3.arr ao7;exact⟨A,c,ls,gs',rfl,h1,h7,h8,h3,h4,⟨h6.os,h6.tape,h6.output,h6.size,fun k hk=>h6.block k (Nat.lt_of_lt_of_le hk hW) (fun e=>by have:=QY hE e;omega)⟩⟩
theorem anf {gs:List (List UInt8×vV)} {n0 now:Int} (hn:n0<now) (h0:0≤now) (h1:now≤dP):Am fT sU dN ⟨n0,gs⟩ now=0:=by
 unfold Am;rw[if_neg (by simp only;omega),if_pos ⟨by kernel_rfl,Pn⟩]
theorem ajY (w:World):KW fTT (mD w):=fun r hr=>by simp[mD] at hr
theorem Zh {w W:World} {ge b B gq bq bl lk:Nat} {n0 now:Int} {gs:List GX} (he:lT (yY w)) (hu:lS (yY w)) (hW:ah (yY w) W) (hE:dG W (yY w).heap.size ge b dN n0 B gs) (hL:kL W bl gq bq [] 0) (hne:bq≠b) (hB:B+3456≤1000000) (hn:n0<now) (h0:0≤now) (h1:now≤dP) {R:Eng×List KT} (hR:yw fT fTT sU dN ⟨n0,dK gs⟩ [rF] noS now=R) :
 Calls Tryz.prog 13 #[.pointer (some ⟨ge,0,none⟩),(mD w).val,.slice (some ⟨w.heap.size+1+1+1+1+1,0,none⟩) 1 lk,.pointer (some ⟨gq,0,none⟩),.int .i64 now] W (U0 (yY w) W (yY w).heap.size ge b B dN now R):=by
 have h:=XT (fb:=fT) (ft:=fTT) (p:=mD w) (lk:=lk) (now:=now) (xs:=[acn w]) (yY w) W hW (Nat.le_refl _) he hu (agC w) (fun x hx=>by rw[List.mem_singleton] at hx;subst hx;exact anj w)
  (fun W' uK=>(anh w).keep (uK.grown hW (fun k hk=>QY hE hk))) hL hne (ajZ w) (ani w) (ajY w) (fun r hr=>by simp[mD] at hr) (by simp[mD]) (fun x hx=>by simp at hx) σ hE hW.size hB ω (anf hn h0 h1)
 exact h.mono (fun e W' hP=>hP.told hE hW.size (Nat.le_refl _) hR)
theorem OZ {w:World} {base ge b:Nat} {rec:List UInt8} (hB:aF w ge 118 #[.string ⟨rec.toArray⟩,.map (some b),.int .i64 (-1)]) (hM:qI w b 0 []) (h1:base≤ge) (h2:base≤b):dG w base ge b rec (-1) 0 []:=
 ⟨hB,⟨0,Nat.le_refl _,hM⟩,List.nodup_nil,List.nodup_nil,List.nodup_nil,fun _ hx=>(List.not_mem_nil hx).elim,fun _ hx=>(List.not_mem_nil hx).elim,fun _ hx=>(List.not_mem_nil hx).elim,h1,h2⟩
theorem XY (w:World) (he:lT w) (hu:lS w) :
 Calls Tryz.prog 9 #[] w fun e w'=>e =.returned (.bool true)∧ah w w':=by
 have he6:=ζ (he.grows (alX w));have hu6:=ζ (hu.grows (alX w));have hg6:=ζ (alX w);have bp:=aqt w;have cN:=ζ (Uo dN (yY w));obtain⟨asx,key,aho,hst⟩:=ang;replace aho:=ζ aho;replace hst:=ζ hst;have Xh:Hid (w.heap.size+1+1+1<(yY w).heap.size):=ζ (by have:=bp.lt;exact this);have cS:=ζ (fun (W:World) (ge b B gq bq lk:Nat) (n0 now:Int) (gs:List GX) (R:Eng×List KT) hW hE hL hne hB hn h0 h1 hR=>Zh (w:=w) (W:=W) (ge:=ge) (b:=b) (B:=B) (gq:=gq) (bq:=bq) (bl:=(yY w).heap.size) (lk:=lk) (n0:=n0) (now:=now) (gs:=gs) he6.o hu6.o hW hE hL hne hB hn h0 h1 (R:=R) hR);replace bp:=ζ bp;go_enter Tryz.func9,Tryz.ntmps9
 go_wp2_with fail;refine (cN.out).mono ?_;rintro e w1 ⟨ge,b,rfl,hEb,hM,sS,hbb,hb1⟩;have hE:=ζ (OZ hEb hM sS hbb);have hG:=ζ hb1;clear hEb hM sS hbb hb1 cN;have He:=bp.out.grows hG.o;have p0:=He.cell 0;have p1:=He.cell 1;have p2:=He.cell 2;have p3:=He.cell 3;have p4:=He.cell 4;have p5:=He.cell 5;have pz:=He.lt;simp only[List.getElem?_toArray,List.getElem?_cons_zero,List.getElem?_cons_succ] at p0 p1 p2 p3 p4 p5;clear He;have aea:=Xh.o;go_wp2;have Tq:=hG.o.size;have Ir:=ζ Tq;refine vW ((yY w).heap.size) κ ?_;refine rK (up:=(uS (by first | exact Nat.le_refl _ | (simp;done) | (simp;omega) | omega))) [0,1,2] 7 ?_;iterate 3 refine qY ?_
 refine aB ?_;refine aK [3] κ σ (fun wN hN hS=>(ay.cons rfl (fun K' hK=> ?_) ay.nil));try replace hE:=ζ (hE.o.grows hN)
 try replace hG:=ζ (hG.o.trans hN)
 try replace hL:=ζ (hL.o.grows hN)
 try replace kF:=ζ (kF.o.grows hN)
 try replace QK:=ζ (fun x hx=>(QK.o x hx).grows hN)
 clear hN;go_simp;refine (EX wN (yY w).heap.size).mono ?_;rintro e w3 ⟨gq,bq,rfl,hL,hgq,hbq,hgb,hb3⟩;have TA:=ζ (show bq≠b by obtain⟨n2,-,K_⟩:=hE.o.map;have:=K_.lt;omega);have hle:=hG.o.size;have Ud:=Below.trans hS (Below.mono hb3 hle);replace hL:=ζ hL;replace hE:=ζ (hE.o.grows hb3);replace hG:=ζ (hG.o.trans hb3);refine hK.o _ _ ?_ (fun hS=> ?_)
 ·exact Ud
 clear hb3 Ud hle hgq hbq hgb;clear hK hS;refine aK [4] κ σ (fun wN hN hS=>(ay.cons rfl (fun K' hK=> ?_) ay.nil));try replace hE:=ζ (hE.o.grows hN)
 try replace hG:=ζ (hG.o.trans hN)
 try replace hL:=ζ (hL.o.grows hN)
 try replace kF:=ζ (kF.o.grows hN)
 try replace QK:=ζ (fun x hx=>(QK.o x hx).grows hN)
 clear hN;go_simp;refine (cS.out _ ge b _ gq bq _ _ _ _ _ hG.o hE.o hL.o TA.o ω δ δ δ asj).mono ?_;rintro e w4 ⟨A4,c4,ls4,gs4,rfl,hE2,ahM,ahG,kF,QK,J7⟩;have Ud:=Below.trans hS J7;replace hG:=ζ (hG.o.eP (Below.mono J7 (Nat.le_refl _)));replace hE:=ζ hE2;replace ahM:=ζ ahM;replace ahG:=ζ ahG;replace kF:=ζ kF;replace QK:=ζ QK;refine hK.o _ _ ?_ (fun hS=> ?_)
 ·exact Ud
 clear hL TA hE2 J7 Ud;clear hK hS;refine rK (up:=(uS (by first | exact Nat.le_refl _ | (simp;done) | (simp;omega) | omega))) [5,6,7,8,9] 0 ?_;iterate 5 refine qY ?_
 refine aB ?_;refine aJ κ (fun wN hN hS=> ?_);try replace hE:=ζ (hE.o.grows hN)
 try replace hG:=ζ (hG.o.trans hN)
 try replace hL:=ζ (hL.o.grows hN)
 try replace kF:=ζ (kF.o.grows hN)
 try replace QK:=ζ (fun x hx=>(QK.o x hx).grows hN)
 clear p0 p1 p2 p3 p4 p5 pz Tq Ir aea hS hN;obtain rfl:ls4=[]:=List.map_eq_nil_iff.1 ahG.o;simp only[List.length_nil];clear kF QK ahG;have He:=bp.out.grows hG.o;have p0:=He.cell 0;have p1:=He.cell 1;have p2:=He.cell 2;have p3:=He.cell 3;have p4:=He.cell 4;have p5:=He.cell 5;have pz:=He.lt;simp only[List.getElem?_toArray,List.getElem?_cons_zero,List.getElem?_cons_succ] at p0 p1 p2 p3 p4 p5;clear He;have aea:=Xh.o;go_wp2;have Tq:=hG.o.size;have Ir:=ζ Tq;refine vW ((yY w).heap.size) κ ?_;refine rK (up:=(uS (by first | exact Nat.le_refl _ | (simp;done) | (simp;omega) | omega))) [0,1,2] 7 ?_;iterate 3 refine qY ?_
 refine aB ?_;refine aK [3] κ σ (fun wN hN hS=>(ay.cons rfl (fun K' hK=> ?_) ay.nil));try replace hE:=ζ (hE.o.grows hN)
 try replace hG:=ζ (hG.o.trans hN)
 try replace hL:=ζ (hL.o.grows hN)
 try replace mY:=ζ (mY.o.grows hN)
 try replace QJ:=ζ (fun x hx=>(QJ.o x hx).grows hN)
 clear hN;go_simp;refine (EX wN (yY w).heap.size).mono ?_;rintro e w3 ⟨gq,bq,rfl,hL,hgq,hbq,hgb,hb3⟩;have TA:=ζ (show bq≠b by obtain⟨n2,-,K_⟩:=hE.o.map;have:=K_.lt;omega);have hle:=hG.o.size;have Ud:=Below.trans hS (Below.mono hb3 hle);replace hL:=ζ hL;replace hE:=ζ (hE.o.grows hb3);replace hG:=ζ (hG.o.trans hb3);refine hK.o _ _ ?_ (fun hS=> ?_)
 ·exact Ud
 clear hb3 Ud hle hgq hbq hgb;clear hK hS;refine aK [4] κ σ (fun wN hN hS=>(ay.cons rfl (fun K' hK=> ?_) ay.nil));try replace hE:=ζ (hE.o.grows hN)
 try replace hG:=ζ (hG.o.trans hN)
 try replace hL:=ζ (hL.o.grows hN)
 try replace mY:=ζ (mY.o.grows hN)
 try replace QJ:=ζ (fun x hx=>(QJ.o x hx).grows hN)
 clear hN;go_simp;refine (cS.out _ ge b _ gq bq _ _ _ _ (⟨9,[(yK,yG 0 (-1) 9 0 [])]⟩,[]) hG.o hE.o hL.o TA.o ω δ δ δ (by rw[ahM.o];exact asi)).mono ?_;rintro e w4 ⟨A5,c5,ls5,gs5,rfl,hE2,Qy,Qv,mY,QJ,J7⟩;have Ud:=Below.trans hS J7;replace hG:=ζ (hG.o.eP (Below.mono J7 (Nat.le_refl _)));replace hE:=ζ hE2;replace Qy:=ζ Qy;replace Qv:=ζ Qv;replace mY:=ζ mY;replace QJ:=ζ QJ;refine hK.o _ _ ?_ (fun hS=> ?_)
 ·exact Ud
 clear hL TA hE2 J7 Ud;clear hK hS;refine rK (up:=(uS (by first | exact Nat.le_refl _ | (simp;done) | (simp;omega) | omega))) [5,6,7,8,9] 0 ?_;iterate 5 refine qY ?_
 refine aB ?_;refine aJ κ (fun wN hN hS=> ?_);try replace hE:=ζ (hE.o.grows hN)
 try replace hG:=ζ (hG.o.trans hN)
 try replace hL:=ζ (hL.o.grows hN)
 try replace mY:=ζ (mY.o.grows hN)
 try replace QJ:=ζ (fun x hx=>(QJ.o x hx).grows hN)
 clear p0 p1 p2 p3 p4 p5 pz Tq Ir aea hS hN;obtain rfl:ls5=[]:=List.map_eq_nil_iff.1 Qv.o;simp only[List.length_nil];clear mY QJ Qv ahM;have He:=bp.out.grows hG.o;have p0:=He.cell 0;have p1:=He.cell 1;have p2:=He.cell 2;have p3:=He.cell 3;have p4:=He.cell 4;have p5:=He.cell 5;have pz:=He.lt;simp only[List.getElem?_toArray,List.getElem?_cons_zero,List.getElem?_cons_succ] at p0 p1 p2 p3 p4 p5;clear He;have aea:=Xh.o;go_wp2;have Tq:=hG.o.size;have Ir:=ζ Tq;refine vW ((yY w).heap.size) κ ?_;refine rK (up:=(uS (by first | exact Nat.le_refl _ | (simp;done) | (simp;omega) | omega))) [0,1,2] 7 ?_;iterate 3 refine qY ?_
 refine aB ?_;refine aK [3] κ σ (fun wN hN hS=>(ay.cons rfl (fun K' hK=> ?_) ay.nil));try replace hE:=ζ (hE.o.grows hN)
 try replace hG:=ζ (hG.o.trans hN)
 try replace hL:=ζ (hL.o.grows hN)
 try replace uF:=ζ (uF.o.grows hN)
 try replace NI:=ζ (fun x hx=>(NI.o x hx).grows hN)
 clear hN;go_simp;refine (EX wN (yY w).heap.size).mono ?_;rintro e w3 ⟨gq,bq,rfl,hL,hgq,hbq,hgb,hb3⟩;have TA:=ζ (show bq≠b by obtain⟨n2,-,K_⟩:=hE.o.map;have:=K_.lt;omega);have hle:=hG.o.size;have Ud:=Below.trans hS (Below.mono hb3 hle);replace hL:=ζ hL;replace hE:=ζ (hE.o.grows hb3);replace hG:=ζ (hG.o.trans hb3);refine hK.o _ _ ?_ (fun hS=> ?_)
 ·exact Ud
 clear hb3 Ud hle hgq hbq hgb;clear hK hS;refine aK [4] κ σ (fun wN hN hS=>(ay.cons rfl (fun K' hK=> ?_) ay.nil));try replace hE:=ζ (hE.o.grows hN)
 try replace hG:=ζ (hG.o.trans hN)
 try replace hL:=ζ (hL.o.grows hN)
 try replace uF:=ζ (uF.o.grows hN)
 try replace NI:=ζ (fun x hx=>(NI.o x hx).grows hN)
 clear hN;go_simp;refine (cS.out _ ge b _ gq bq _ _ _ _ (asx,[⟨dN,key,1,10,Vm,[⟨yg rF,true,rF.fs⟩]⟩]) hG.o hE.o hL.o TA.o ω δ δ δ (by rw[Qy.o];exact aho.o)).mono ?_;rintro e w4 ⟨A6,c6,ls6,gs6,rfl,hE2,ahL,ahF,uF,NI,J7⟩;have Ud:=Below.trans hS J7;replace hG:=ζ (hG.o.eP (Below.mono J7 (Nat.le_refl _)));replace hE:=ζ hE2;replace ahL:=ζ ahL;replace ahF:=ζ ahF;replace uF:=ζ uF;replace NI:=ζ NI;refine hK.o _ _ ?_ (fun hS=> ?_)
 ·exact Ud
 clear hL TA hE2 J7 Ud;clear hK hS;refine rK (up:=(uS (by first | exact Nat.le_refl _ | (simp;done) | (simp;omega) | omega))) [5,6,7,8,9] 0 ?_;iterate 5 refine qY ?_
 refine aB ?_;refine aJ κ (fun wN hN hS=> ?_);try replace hE:=ζ (hE.o.grows hN)
 try replace hG:=ζ (hG.o.trans hN)
 try replace hL:=ζ (hL.o.grows hN)
 try replace uF:=ζ (uF.o.grows hN)
 try replace NI:=ζ (fun x hx=>(NI.o x hx).grows hN)
 clear p0 p1 p2 p3 p4 p5 pz Tq Ir aea hS hN;obtain⟨x6,rfl,hx6⟩:=adI ahF.o;have Az:gs6.length=1:=by
  have h1:=congrArg List.length ahL.o;unfold dK at h1;rw[List.length_map] at h1;rw[h1];exact hst.o
 have cC:=ζ (fun W (hW:ah _ W)=>G7 W (hE.o.grows hW));rw[Az] at cC;simp only[List.length_cons,List.length_nil,Nat.zero_add] at uF;obtain⟨g6,c6',hv6⟩:=uZ uF.o σ;simp only[List.length_cons,List.length_nil,Nat.zero_add,Value.slice.injEq,true_and] at hv6;obtain⟨rfl,rfl⟩:=hv6;obtain⟨y,hy,hc6,-⟩:=uF.o.at_ ao7 (i:=0) σ;simp only[List.getElem?_cons_zero,Option.some.injEq] at hy;subst hy;have Nr:=NI.o x6 σ;simp only[iC.I4,KT.mk.injEq] at hx6;obtain⟨-,-,hn,htm,-,hts⟩:=hx6;have htl:x6.tl=1:=by
  obtain⟨A',k',e1,-⟩:=Nr.ts.arr hkT;simp only[Value.slice.injEq] at e1;have:=congrArg List.length hts;rw[List.length_map] at this;rw[e1.2.1,this];rfl
 have l2:wN.cell? ⟨g6,2,none⟩=some (.int .i64 1):=by rw[←hn];simpa using hc6 2 _ rfl
 have l3:wN.cell? ⟨g6,3,none⟩=some (.int .i64 10):=by rw[←htm];simpa using hc6 3 _ rfl
 have l5:wN.cell? ⟨g6,5,none⟩=some (.slice x6.tA 1 x6.tk):=by rw[←htl];simpa using hc6 5 _ rfl
 have ll:=World.block_lt_of_cell? wN _ l2;simp only at ll;replace cC:=ζ cC;clear hc6 Nr hn htm hts htl NI uF ahF ahL hE Qy Az hst aho cS;go_wp2_with fail;refine (cC.out.out _ (ah.refl _)).mono ?_;rintro e w9 ⟨rfl,TR⟩;have hGf:=ζ (hg6.o.trans (hG.o.trans TR));clear TR l2 l3 l5 ll cC;go_wp2;go_ret;exact⟨rfl,hGf.o⟩
theorem SN {fb:d_→Bool} {p:jo} {rec:List UInt8} {now:Int} (hr:p.receivers=[]) (gs:List (List UInt8×vV)):Am fb p rec ⟨-1,gs⟩ now=if now<0∨dP<now then 9 else 5:=by
 unfold Am;rw[hr];have:(dY ([]:List xZ) rec).isSome=false:=rfl;rw[this];by_cases h:now<0∨dP<now
 ·rw[if_pos (by simp only;omega),if_pos h]
 ·rw[if_neg (by simp only;omega),if_neg h,if_neg σ]
def aob:List UInt8:=[110,111,95,115,117,99,104]
theorem afj {fb:d_→Bool} (nN:∀x:aY,jc fb x) {now:Int} {p:aY} (w:World) (he:lT w) (hu:lS w) (hp:p.At w) (hc:p.amf) :
 Calls Tryz.prog 4 #[.int .i64 now,p.val] w fun e w'=>e =.returned (.bool true)∧ah w w':=by
 have cL:=ζ (fun W (hW:ah w W)=>XY W (he.grows hW) (hu.grows hW));have cC:=fun W=>abz (p:=p) W hc
 have hq:=hp.cut 14;generalize p.cut 14=q at *
 have nT:p.val=.agg #[.slice p.s.A p.s.m p.s.k,.slice p.r.A p.r.m p.r.k,.slice p.e.A p.e.m p.e.k,.slice p.a.A p.a.m p.a.k,.slice p.oA p.om p.ok,.slice p.iA p.im p.ik]:=rfl;have hqv:q.val=.agg #[.slice q.s.A q.s.m q.s.k,.slice q.r.A q.r.m q.r.k,.slice q.e.A q.e.m q.e.k,.slice q.a.A q.a.m q.a.k,.slice q.oA q.om q.ok,.slice q.iA q.im q.ik]:=rfl;have hzA:∀W,ah w W→({q with r:=⟨[],none,0,0⟩}:aY).At W:=fun W hW=>{hq.keep hW with r:=Qa W}
 have hzv:({q with r:=⟨[],none,0,0⟩}:aY).val=.agg #[.slice q.s.A q.s.m q.s.k,.slice none 0 0,.slice q.e.A q.e.m q.e.k,.slice q.a.A q.a.m q.a.k,.slice q.oA q.om q.ok,.slice q.iA q.im q.ik]:=rfl;have hzr:({q with r:=⟨[],none,0,0⟩}:aY).aU.receivers=[]:=rfl;have hzf:=nN ({q with r:=⟨[],none,0,0⟩}:aY);generalize ({q with r:=⟨[],none,0,0⟩}:aY)=z at *
 rw[nT,hqv] at cC;rw[nT];replace cC:=ζ cC;have cSN:=ζ (fun W=>by have h:=abr (p:=z) (now:=now) (lv:=.slice none 0 0) (sv:=.pointer none) W;rw[hzv] at h;exact h);have afF:=ζ (fun W=>by have h:=abu (p:=z) (now:=now) W;rw[hzv] at h;exact h);have aqB:=ζ (fun W=>Uo aob W);have NJ:ah w (w.alloc (.cells #[.slice p.s.A p.s.m p.s.k,.slice p.r.A p.r.m p.r.k,.slice p.e.A p.e.m p.e.k,.slice p.a.A p.a.m p.a.k,.slice p.oA p.om p.ok,.slice p.iA p.im p.ik] 50)):=(ah.refl w).alloc _;have hP0:=aF.new w 50 #[.slice p.s.A p.s.m p.s.k,.slice p.r.A p.r.m p.r.k,.slice p.e.A p.e.m p.e.k,.slice p.a.A p.a.m p.a.k,.slice p.oA p.om p.ok,.slice p.iA p.im p.ik];obtain⟨gP,hgP⟩:∃gP,gP=w.heap.size:=⟨_,rfl⟩;rw[←hgP] at hP0;replace hgP:=ζ hgP;replace hzA:=ζ hzA;replace hzv:=ζ hzv;replace NJ:=ζ NJ;clear hq hqv nT he hu hp hc;go_enter Tryz.func4,Tryz.ntmps4
 go_wp2_with fail;refine (cL.out _ NJ.o).mono ?_;rintro e w1 ⟨rfl,hb1⟩;have YS:=hP0.grows hb1;have gu:=ζ (NJ.o.trans hb1);rw[←hgP.o];have p0:=YS.c0;have p1:=YS.c1;have p2:=YS.c2;have p3:=YS.c3;have p4:=YS.c4;have p5:=YS.c5;have pl:=YS.lt;clear hb1 NJ hP0 cL;go_wp2_with fail;refine (cC.out w1).mono ?_;rintro e w2 ⟨rfl,hb2⟩;replace YS:=YS.grows hb2;replace gu:=ζ (gu.o.trans hb2);clear hb2 p0 p1 p2 p3 p4 p5 pl cC;replace YS:=ζ YS;rename_i hK;refine hK _ _ ?_;clear hK;with_reducible show wpList _ _ _ _ _ _
 refine wpList_store_row rfl 50 (.tmp 3) (.tmp 15) rfl gP #[.slice q.s.A q.s.m q.s.k,.slice q.r.A q.r.m q.r.k,.slice q.e.A q.e.m q.e.k,.slice q.a.A q.a.m q.a.k,.slice q.oA q.om q.ok,.slice q.iA q.im q.ik] rfl rfl 50 _ YS.o κ rfl (by simp[Value.oneCell']) ?_;have g3:=j_ w2 gP #[.slice q.s.A q.s.m q.s.k,.slice q.r.A q.r.m q.r.k,.slice q.e.A q.e.m q.e.k,.slice q.a.A q.a.m q.a.k,.slice q.oA q.om q.ok,.slice q.iA q.im q.ik];have hQ:aF (w2.setRow gP #[.slice q.s.A q.s.m q.s.k,.slice q.r.A q.r.m q.r.k,.slice q.e.A q.e.m q.e.k,.slice q.a.A q.a.m q.a.k,.slice q.oA q.om q.ok,.slice q.iA q.im q.ik]) gP 50 #[.slice q.s.A q.s.m q.s.k,.slice q.r.A q.r.m q.r.k,.slice q.e.A q.e.m q.e.k,.slice q.a.A q.a.m q.a.k,.slice q.oA q.om q.ok,.slice q.iA q.im q.ik]:=setRow_heap _ _ _ _ _ _ YS.o;have fG:=ζ (gu.o.aP g3 (fun j hj=>by injection hj with hj;have:=hgP.o;omega));clear YS g3 gu;generalize w2.setRow gP #[.slice q.s.A q.s.m q.s.k,.slice q.r.A q.r.m q.r.k,.slice q.e.A q.e.m q.e.k,.slice q.a.A q.a.m q.a.k,.slice q.oA q.om q.ok,.slice q.iA q.im q.ik]=w3 at *
 have p1:=hQ.c1;have pl:=hQ.lt;have pf:=hQ.frozen 1;have hP:Hid (aF (w3.setCell ⟨gP,1,none⟩ (.slice none 0 0)) gP 50 #[.slice q.s.A q.s.m q.s.k,.slice none 0 0,.slice q.e.A q.e.m q.e.k,.slice q.a.A q.a.m q.a.k,.slice q.oA q.om q.ok,.slice q.iA q.im q.ik]):=ζ ((hQ.aW 1 (.slice none 0 0)).cast σ);have I8:=ζ (fG.o.aP (aj w3 ⟨gP,1,none⟩ (.slice none 0 0)) (fun j hj=>by injection hj with hj;subst hj;have:=hgP.o;show w.heap.size≤gP;omega));have q0:(w3.setCell ⟨gP,1,none⟩ (.slice none 0 0)).cell? ⟨gP,0,none⟩=some (.slice q.s.A q.s.m q.s.k):=hP.o.cell 0;have q1:(w3.setCell ⟨gP,1,none⟩ (.slice none 0 0)).cell? ⟨gP,1,none⟩=some (.slice none 0 0):=hP.o.cell 1;have q2:(w3.setCell ⟨gP,1,none⟩ (.slice none 0 0)).cell? ⟨gP,2,none⟩=some (.slice q.e.A q.e.m q.e.k):=hP.o.cell 2;have q3:(w3.setCell ⟨gP,1,none⟩ (.slice none 0 0)).cell? ⟨gP,3,none⟩=some (.slice q.a.A q.a.m q.a.k):=hP.o.cell 3;have q4:(w3.setCell ⟨gP,1,none⟩ (.slice none 0 0)).cell? ⟨gP,4,none⟩=some (.slice q.oA q.om q.ok):=hP.o.cell 4;have q5:(w3.setCell ⟨gP,1,none⟩ (.slice none 0 0)).cell? ⟨gP,5,none⟩=some (.slice q.iA q.im q.ik):=hP.o.cell 5;clear hQ fG;go_wp2_with fail;clear q0 q1 q2 q3 q4 q5 p1 pl pf;generalize w3.setCell ⟨gP,1,none⟩ (.slice none 0 0)=w4 at *
 have hG:=ζ (ah.refl w4);refine (cSN.out _).mono ?_;rintro e w5 ⟨rfl,iU⟩;replace hG:=ζ (hG.o.trans iU);replace hP:=ζ (hP.o.grows iU);clear iU cSN;go_wp2_with fail;refine (aqB.out _).mono ?_;rintro e w6 ⟨ge,b,rfl,hEb,hM,sS,hbb,sZ⟩;have hE:=ζ (OZ (base:=0) hEb hM (Nat.zero_le _) (Nat.zero_le _));replace hG:=ζ (hG.o.trans sZ);replace hP:=ζ (hP.o.grows sZ);clear sZ aqB hEb hM sS hbb;have hgz:=ζ (I8.o.trans hG.o);have cSe:=afc (fb:=fb) (p:=z) (st:=⟨-1,[]⟩) (lv:=.slice none 0 0) (sv:=.pointer none) (now:=now) w6 (hzA.o _ hgz.o) hzf hE.o.blk (by rw[SN hzr];split <;> decide);rw[hzv.o,SN hzr] at cSe;replace cSe:=ζ cSe;have p0:=hP.o.c0;have p1:=hP.o.c1;have p2:=hP.o.c2;have p3:=hP.o.c3;have p4:=hP.o.c4;have p5:=hP.o.c5;have pl:=hP.o.lt;go_wp2_with fail;refine cSe.out.mono ?_;rintro e w7 ⟨rfl,Nz⟩;clear p0 p1 p2 p3 p4 p5 pl;replace hE:=ζ (hE.o.grows Nz);replace hP:=ζ (hP.o.grows Nz);replace I8:=ζ (I8.o.trans (hG.o.trans Nz));have NS:=ζ (fun W (hW:ah w7 W)=>afi W (hE.o.blk.grows hW));have al0:=ζ (fun W (hW:ah w7 W)=>G7 W (hE.o.grows hW));replace hG:=ζ (ah.refl w7);clear Nz hgz cSe hE hzf nN hzA hzv hzr;by_cases h1:now<0
 ·rw[if_pos (.inl h1)];go_wp2_with fail;refine (NS.out _ hG.o).mono ?_;rintro e w6 ⟨rfl,sZ⟩;replace hG:=ζ (hG.o.trans sZ);replace hP:=ζ (hP.o.grows sZ);clear sZ;go_wp2_with fail;refine (al0.out _ hG.o).mono ?_;rintro e w7 ⟨rfl,Nz⟩;replace hG:=ζ (hG.o.trans Nz);replace hP:=ζ (hP.o.grows Nz);clear Nz;go_wp2_with fail;refine (yZ _).mono ?_;rintro e w8 ⟨rfl,hb8⟩;replace hG:=ζ (hG.o.trans hb8);replace hP:=ζ (hP.o.grows hb8);clear hb8;go_wp2_with fail;refine (Ku _).mono ?_;rintro e w9 ⟨rfl,TR⟩;replace hG:=ζ (hG.o.trans TR);replace hP:=ζ (hP.o.grows TR);clear TR;go_wp2_with fail;refine (uG _).mono ?_;rintro e MS ⟨rfl,J3⟩;replace hG:=ζ (hG.o.trans J3);replace hP:=ζ (hP.o.grows J3);clear J3;have p0:=hP.o.c0;have p1:=hP.o.c1;have p2:=hP.o.c2;have p3:=hP.o.c3;have p4:=hP.o.c4;have p5:=hP.o.c5;have pl:=hP.o.lt;go_wp2_with fail;refine (afF.out _).mono ?_;rintro e w11 ⟨rfl,TT⟩;replace hG:=ζ (hG.o.trans TT);clear TT p0 p1 p2 p3 p4 p5 pl;go_wp2;go_ret;exact⟨rfl,I8.o.trans hG.o⟩
 ·by_cases h2:1099511627776<now
  ·rw[if_pos (.inr (show dP<now from h2))];go_wp2_with fail;refine (NS.out _ hG.o).mono ?_;rintro e w6 ⟨rfl,sZ⟩;replace hG:=ζ (hG.o.trans sZ);replace hP:=ζ (hP.o.grows sZ);clear sZ;go_wp2_with fail;refine (al0.out _ hG.o).mono ?_;rintro e w7 ⟨rfl,Nz⟩;replace hG:=ζ (hG.o.trans Nz);replace hP:=ζ (hP.o.grows Nz);clear Nz;go_wp2_with fail;refine (yZ _).mono ?_;rintro e w8 ⟨rfl,hb8⟩;replace hG:=ζ (hG.o.trans hb8);replace hP:=ζ (hP.o.grows hb8);clear hb8;go_wp2_with fail;refine (Ku _).mono ?_;rintro e w9 ⟨rfl,TR⟩;replace hG:=ζ (hG.o.trans TR);replace hP:=ζ (hP.o.grows TR);clear TR;go_wp2_with fail;refine (uG _).mono ?_;rintro e MS ⟨rfl,J3⟩;replace hG:=ζ (hG.o.trans J3);replace hP:=ζ (hP.o.grows J3);clear J3;have p0:=hP.o.c0;have p1:=hP.o.c1;have p2:=hP.o.c2;have p3:=hP.o.c3;have p4:=hP.o.c4;have p5:=hP.o.c5;have pl:=hP.o.lt;go_wp2_with fail;refine (afF.out _).mono ?_;rintro e w11 ⟨rfl,TT⟩;replace hG:=ζ (hG.o.trans TT);clear TT p0 p1 p2 p3 p4 p5 pl;go_wp2;go_ret;exact⟨rfl,I8.o.trans hG.o⟩
  ·rw[if_neg (fun h=>by rcases h with h | h;exact h1 h;exact h2 h)];go_wp2_with fail;refine (NS.out _ hG.o).mono ?_;rintro e w6 ⟨rfl,sZ⟩;replace hG:=ζ (hG.o.trans sZ);replace hP:=ζ (hP.o.grows sZ);clear sZ;go_wp2_with fail;refine (al0.out _ hG.o).mono ?_;rintro e w7 ⟨rfl,Nz⟩;replace hG:=ζ (hG.o.trans Nz);replace hP:=ζ (hP.o.grows Nz);clear Nz;go_wp2_with fail;refine (yZ _).mono ?_;rintro e w8 ⟨rfl,hb8⟩;replace hG:=ζ (hG.o.trans hb8);replace hP:=ζ (hP.o.grows hb8);clear hb8;go_wp2_with fail;refine (Ku _).mono ?_;rintro e w9 ⟨rfl,TR⟩;replace hG:=ζ (hG.o.trans TR);replace hP:=ζ (hP.o.grows TR);clear TR;go_wp2_with fail;refine (uG _).mono ?_;rintro e MS ⟨rfl,J3⟩;replace hG:=ζ (hG.o.trans J3);replace hP:=ζ (hP.o.grows J3);clear J3;have p0:=hP.o.c0;have p1:=hP.o.c1;have p2:=hP.o.c2;have p3:=hP.o.c3;have p4:=hP.o.c4;have p5:=hP.o.c5;have pl:=hP.o.lt;go_wp2_with fail;refine (afF.out _).mono ?_;rintro e w11 ⟨rfl,TT⟩;replace hG:=ζ (hG.o.trans TT);clear TT p0 p1 p2 p3 p4 p5 pl;go_wp2;go_ret;exact⟨rfl,I8.o.trans hG.o⟩
end Go.Proofs.YtbhikkgpcmkonaaGreatDoor
