/- Parts: EngN EngO ELiB ELiv ViwB ViwC ViwD ViwE ViwF -/
import Derived.Test.YtbhikkgpcmkonaaGreatDoorVo0
import Derived.Test.YtbhikkgpcmkonaaGreatDoorVo22
import Derived.Test.YtbhikkgpcmkonaaGreatDoorVo24
import Derived.Test.YtbhikkgpcmkonaaGreatDoorVo25
import Derived.Test.YtbhikkgpcmkonaaGreatDoorVo13
import Derived.Test.YtbhikkgpcmkonaaGreatDoorVo12
import Derived.Test.YtbhikkgpcmkonaaGreatDoorVo18
set_option maxRecDepth 100000
set_option maxHeartbeats 12800000
namespace Go.Proofs.YtbhikkgpcmkonaaGreatDoor
open Go.RowKit Go.Maps Go.WideMaps
structure axB (p:bQ) (lA:Option Addr) (lm:Nat) (xs:List dD) (bl gq bq last:Nat) (q:QX) (W:World):Prop where
 aU:p.At W
 arr:bW W 6 tH lA lm xs
 at_:∀x∈xs,x.At W
 Xh:jl W bl gq bq q last
 lib:oJ W
 utf:oI W
def uF (ge b:Nat) (gs:List GX) (k:Nat):Prop:=k=ge∨k=b∨∃x∈gs,k=x.gb∨k=x.cb
theorem afq (ge b:Nat) (gs:List GX) (w:World):wF (uF ge b gs) w gs:=fun x hx=>⟨.inl (.inr (.inr ⟨x,hx,.inl rfl⟩)),.inl (.inr (.inr ⟨x,hx,.inr rfl⟩))⟩
theorem nN.more {S T:Nat→Prop} {a b c:World} (h:nN S a b) (k:nN T b c) (ht:∀j,j < a.heap.size→T j→S j):nN S a c:=
 ⟨k.os.trans h.os,k.tape.trans h.tape,k.output.trans h.output,Nat.le_trans h.size k.size,fun j hj hn=>(k.block j (Nat.lt_of_lt_of_le hj h.size) (fun e=>hn (ht j hj e))).trans (h.block j hj hn)⟩
theorem Own.off {α:Type} {S:Nat→Prop} {w w':World} {b0 k:Nat} {e:TypeId} {enc:α→List Value} {v:Value} {xs:List α} (h:Own w b0 e k enc v xs) (hO:nN S w w') (hn:∀m,v.ownBlock=some m→¬S m):Own w' b0 e k enc v xs:=by
 refine⟨h.1,?_⟩;rcases h.2 with h2 | ⟨g,cap,cur,hv,hb,hh,r⟩
 ·exact .inl h2
 ·exact .inr ⟨g,cap,cur,hv,hb,(hO.block g (Dh hh) (hn g (by rw[hv];rfl))).trans hh,r⟩
theorem amM {fb:cu→Bool} {ft:List bM→cu→Bool} {p:fQ} {rec:List UInt8} {xs:List dD} {lm:Nat} (hl:xs.length=lm) {q:n_} {now:Int}:∀k∈yS fb ft p rec (xs.map (·.a)) q now,k<lm:=by
 intro k hk;unfold yS at hk;split at hk
 ·cases hk
 ·obtain⟨a,ha,-⟩:=Ue (List.mem_filter.1 hk).1;have:=(List.getElem?_eq_some_iff.1 ha).1;rw[List.length_map] at this;omega
theorem Oy {fb:cu→Bool} {ft:List bM→cu→Bool} {p:fQ} {rec:List UInt8} {l:List iH} {q:n_} {now:Int}:(yS fb ft p rec l q now).length≤l.length:=by
 unfold yS;split
 ·simp
 ·refine Nat.le_trans (List.length_filter_le ..) ?_;unfold xQ;split
  ·refine Nat.le_trans (List.length_filter_le ..) ?_;unfold xE;refine Nat.le_trans (List.length_filter_le ..) ?_;rw[List.length_range];exact Nat.le_refl _
  ·simp
theorem aqw {fb:cu→Bool} {ft:List bM→cu→Bool} {p:fQ} {rec:List UInt8} {xs ys:List dD} {q:n_} {now:Int} (h:ys=(yS fb ft p rec (xs.map (·.a)) q now).filterMap fun k=>xs[k]?) :
 ys.map (·.a)=IE fb ft p rec (xs.map (·.a)) q now∧(∀y∈ys,y∈xs)∧ys.length≤xs.length:=by
 subst h;refine⟨?_,fun y hy=> ?_,?_⟩
 ·unfold IE;rw[List.map_filterMap];congr 1
  funext k
  rw[List.getElem?_map]
 ·obtain⟨k,-,hk⟩:=List.mem_filterMap.1 hy;exact List.mem_of_getElem? hk
 ·refine Nat.le_trans (List.length_filterMap_le ..) ?_;have:=Oy (fb:=fb) (ft:=ft) (p:=p) (rec:=rec) (l:=xs.map (·.a)) (q:=q) (now:=now);rw[List.length_map] at this;exact this
theorem Jd {w w':World} {b0:Nat} {gs:List dQ} (h:Xd w b0 gs) (hg:ah w w'):Xd w' b0 gs:=fun x hx=>⟨(h x hx).1.grows hg,(h x hx).2.grows hg⟩
theorem wF.same {S:Nat→Prop} {w0:World} {gs gs':List GX} (h:wF S w0 gs) (hb:gs'.map (·.gb)=gs.map (·.gb)) (hc:gs'.map (·.cb)=gs.map (·.cb)):wF S w0 gs':=fun x hx=>by
 have h1:x.gb∈gs.map (·.gb):=by rw[←hb];exact List.mem_map.2 ⟨x,hx,rfl⟩
 have h2:x.cb∈gs.map (·.cb):=by rw[←hc];exact List.mem_map.2 ⟨x,hx,rfl⟩
 obtain⟨y,hy,e1⟩:=List.mem_map.1 h1;obtain⟨z,hz,e2⟩:=List.mem_map.1 h2;have a1:=(h y hy).1;have a2:=(h z hz).2;rw[e1] at a1;rw[e2] at a2;exact⟨a1,a2⟩
theorem dH.tkq {w w':World} {base:Nat} {x:fO} {T:List TypeId} (h:dH w base x) (hT:uh T w w') (h1:88∉T) (h2:65∉T):dH w' base x:=
 ⟨uh.own h.fP hT h1,uh.own h.ts hT h2,fun y hy=>⟨uh.own (h.at_ y hy).1 hT h1,(h.at_ y hy).2⟩,h.ble,h.Tm,h.tle⟩
theorem nN.one {g:Nat} {a b:World} (h:nN (fun j=>j = g) a b):a.grownBy b (some g):=⟨h.os,h.tape,h.output,h.size,fun i hi hne=>h.block i hi (fun e=>hne (by rw[e]))⟩
def DC (fb:cu→Bool) (ft:List bM→cu→Bool) (p:bQ) (rec:List UInt8) (w:World) (base ge b B:Nat) (n0 now:Int) (gs:List GX) (xs:List dD) (q:n_) (e:Ending) (w':World):Prop:=
 ∃(v:Value) (ls:List fO) (gs':List GX),e =.returned (.tuple #[v,.int .i64 0])∧dO w' base ge b rec now (B+3456) gs'∧wF (uF ge b gs) w gs'∧Own w' w.heap.size 64 6 kE v ls∧(∀x∈ls,dH w' w.heap.size x)∧ls.length≤B+3456∧nN (uF ge b gs) w w'∧
  dK gs'=(jO fb ft p.aU rec ⟨n0,dK gs⟩ (xs.map (·.a)) q now).1.gs∧ls.map (·.xM)=(jO fb ft p.aU rec ⟨n0,dK gs⟩ (xs.map (·.a)) q now).2
theorem abv {fb:cu→Bool} {p:fQ} {rec:List UInt8} {st:Eng} {now:Int} (h:yZ fb p rec st now=0):st.now<now∧0≤now∧now≤eY∧fE fb p = 0:=by
 unfold yZ at h;split at h
 ·cases h
 ·split at h
  ·rename_i h1 h2;exact⟨ω,ω,ω,h2.2⟩
  ·cases h
theorem agC {fb:cu→Bool} {ft:List bM→cu→Bool} {p:bQ} {base bl ge b B gq bq last:Nat} {rec:List UInt8} {n0 now:Int} {gs:List GX} {lA:Option Addr} {lm lk:Nat} {xs:List dD} {q:QX} (W:World)
 (SQ:∀W',nN (uF ge b gs) W W'→axB p lA lm xs bl gq bq last q W') (nG:lW fb p) (YJ:Js ft p) (JD:Qs ft p) (hib:∀r∈p.i,r.bm≤1000000) (YF:p.im≤1000) (kR:aec ft q) (Xk:q.length≤60000)
 (hE:dO W base ge b rec n0 B gs) (hlb:base≤W.heap.size) (hB:B+3456≤1000000) (Jz:lm≤12) (afS:yZ fb p.aU rec ⟨n0,dK gs⟩ now=0) :
 Calls Tryz.prog 13 #[.pointer (some ⟨ge,0,none⟩),p.val,.slice lA lm lk,.pointer (some ⟨gq,0,none⟩),.int .i64 now] W (DC fb ft p rec W base ge b B n0 now gs xs (bJ q last)):=by
 have hE0:=SQ W (nN.refl _ _);obtain⟨ajY,hn0,hn1,uO⟩:=abv afS;simp only at ajY;have hom:p.om≤12:=by
  have h1:=(IG (zH uO).1).1;have h2:p.aU.routes.length=p.om:=by
   have:p.aU.routes=p.o.map (·.r):=rfl;rw[this,List.length_map,hE0.aU.o.1]
  omega
 have H7:=hE0.arr.1;have cM:=ζ (fun W' (hW:ah W W')=>adr (fb:=fb) (p:=p) (st:=⟨n0,dK gs⟩) (now:=now) (b:=b) W' (hE0.aU.keep hW) nG (hE.blk.grows hW));rw[afS] at cM;have cS:=ζ (fun W' (hW:nN (uF ge b gs) W W') (JH:aG W' ge 118 #[.string ⟨rec.toArray⟩,.map (some b),.int .i64 now])=>aiQ (fb:=fb) (ft:=ft) (lk:=lk) (now:=now) W' (SQ W' hW).aU nG JD hib YF (SQ W' hW).arr (SQ W' hW).at_ ω (SQ W' hW).Xh Xk kR JH);have hP:DC fb ft p rec W base ge b B n0 now gs xs (bJ q last)=fun e w'=>∃(v:Value) (ls:List fO) (gs':List GX),e =.returned (.tuple #[v,.int .i64 0])∧dO w' base ge b rec now (B+3456) gs'∧wF (uF ge b gs) W gs'∧Own w' W.heap.size 64 6 kE v ls∧(∀x∈ls,dH w' W.heap.size x)∧ls.length≤B+3456∧nN (uF ge b gs) W w'∧
  dK gs'=(Dx fb ft p.aU rec ⟨n0,dK gs⟩ (xs.map (·.a)) (bJ q last) now).gs.map (GU (Dx fb ft p.aU rec ⟨n0,dK gs⟩ (xs.map (·.a)) (bJ q last) now).asked now)∧ls.map (·.xM)=(Dx fb ft p.aU rec ⟨n0,dK gs⟩ (xs.map (·.a)) (bJ q last) now).out:=by
  funext e w'
  unfold DC jO;rw[if_pos afS]
 rw[hP];clear hP;have bP0:=aG.new (W.alloc (.cells #[.pointer (some ⟨ge,0,none⟩)] 51)) 50 #[.slice p.s.A p.s.m p.s.k,.slice p.r.A p.r.m p.r.k,.slice p.e.A p.e.m p.e.k,.slice p.a.A p.a.m p.a.k,.slice p.oA p.om p.ok,.slice p.iA p.im p.ik];simp only[World.size_alloc] at bP0;have b1:=((aG.new W 51 #[.pointer (some ⟨ge,0,none⟩)]).alloc (.cells #[.slice p.s.A p.s.m p.s.k,.slice p.r.A p.r.m p.r.k,.slice p.e.A p.e.m p.e.k,.slice p.a.A p.a.m p.a.k,.slice p.oA p.om p.ok,.slice p.iA p.im p.ik] 50)).alloc (.cells #[.int .i64 now] 3);have b2:=bP0.alloc (.cells #[.int .i64 now] 3);have b4:=aG.Bh W (.cells #[.pointer (some ⟨ge,0,none⟩)] 51) (.cells #[.slice p.s.A p.s.m p.s.k,.slice p.r.A p.r.m p.r.k,.slice p.e.A p.e.m p.e.k,.slice p.a.A p.a.m p.a.k,.slice p.oA p.om p.ok,.slice p.iA p.im p.ik] 50) 3 #[.int .i64 now];have hg0:ah W (((W.alloc (.cells #[.pointer (some ⟨ge,0,none⟩)] 51)).alloc (.cells #[.slice p.s.A p.s.m p.s.k,.slice p.r.A p.r.m p.r.k,.slice p.e.A p.e.m p.e.k,.slice p.a.A p.a.m p.a.k,.slice p.oA p.om p.ok,.slice p.iA p.im p.ik] 50)).alloc (.cells #[.int .i64 now] 3)):=(((ah.refl W).alloc _).alloc _).alloc _;unfold bQ.val at *
 go_enter Tryz.func13,Tryz.ntmps13
 go_wp2_with fail;refine (cM.out _ hg0).mono ?_;rintro e w1 ⟨rfl,hb1⟩;have hg1:=hg0.trans hb1;replace b1:=b1.grows hb1;replace b2:=b2.grows hb1;replace b4:=b4.grows hb1;have JG:=hE.grows hg1;have hEA:=JG.aqs (Int.le_of_lt ajY);have nD:=aj w1 ⟨ge,2,none⟩ (.int .i64 now);have b1A:=b1.aQ nD (fun e=>by injection e with e;exact b1.NJ JG.blk δ e);have b2A:=b2.aQ nD (fun e=>by injection e with e;exact b2.NJ JG.blk δ e);have b4A:=b4.aQ nD (fun e=>by injection e with e;exact b4.NJ JG.blk δ e);have hOA:nN (uF ge b gs) W (w1.setCell ⟨ge,2,none⟩ (.int .i64 now)):=(hg1.off _).next nD (fun k hk=>by injection hk with hk;exact .inl (.inl hk.symm));have q1:=b1.c0;have q1l:=b1.lt;have q4:=b4.c0;have q4l:=b4.lt;have e2:=JG.blk.c2;have e2l:=JG.blk.lt;have e2f:=JG.blk.frozen 2;have q1A:(w1.setCell ⟨ge,2,none⟩ (.int .i64 now)).cell? ⟨W.heap.size,0,none⟩=some (.pointer (some ⟨ge,0,none⟩)):=b1A.cell 0;have e1A:(w1.setCell ⟨ge,2,none⟩ (.int .i64 now)).cell? ⟨ge,1,none⟩=some (.map (some b)):=hEA.blk.cell 1;have ane:(w1.setCell ⟨ge,2,none⟩ (.int .i64 now)).heap.size=w1.heap.size:=by simp
 obtain⟨n,hnB,D,hown,hD⟩:=hEA.map;have V3:=ζ hg1.size;replace SQ:=ζ SQ;replace b1:=ζ b1;replace b2:=ζ b2;replace b4:=ζ b4;replace b1A:=ζ b1A;replace b2A:=ζ b2A;replace b4A:=ζ b4A;replace hE:=ζ hE;replace hEA:=ζ hEA;replace hOA:=ζ hOA;replace ane:=ζ ane;clear hE0 JG nD hg0 hg1 hb1 cM bP0;go_wp2_with (first
  | (at_range;refine wpList_range_own _ rfl _ 116 rfl 9 120 Aq Tryz.underlying116 yU b n D rfl hown ?_;intro w3 hrg0 afW hs0)
  | go_in)
 go_frame
 rw[ane.o] at hrg0 hs0 ⊢;have je:=hOA.o.next afW (fun k hk=>by cases hk);have JF:=hEA.o.other afW σ (fun m hm=>by cases hm);have ag6:=b1A.out.aQ afW σ;have ag5:=b2A.out.aQ afW σ;have alG:=b4A.out.aQ afW σ;have arF:∀cur te fz,w3.heap[b]?≠some (.cells cur te fz):=(show wH w3 b n (pU gs) from ⟨D,hrg0.owns,hD⟩).aY;have V4:=oM hrg0;have hnb:∀{g:Nat} {te:TypeId} {cs:Array Value},aG w3 g te cs→¬aep b w1.heap.size g:=fun hB h=>by
  rcases h with rfl | rfl
  ·exact arF _ _ _ hB
  ·exact V4 _ _ _ hB
 have avw:=hnb ag6;have avv:=hnb ag5;have avu:=hnb alG;have hTw:∀j,j < W.heap.size→aep b w1.heap.size j→uF ge b gs j:=fun j hj hT=>by
  rcases hT with rfl | rfl
  ·exact .inr (.inl rfl)
  ·have:=V3.o;omega
 clear hnb;replace je:=ζ je;replace JF:=ζ JF;replace ag6:=ζ ag6;replace ag5:=ζ ag5;replace alG:=ζ alG;replace hTw:=ζ hTw;refine ak3 (p:=p) (gs:=gs) (now:=now) (ζ (fun W' yI=>(SQ.o W' (je.o.more yI hTw.o)).aU)) ag6 ag5 JF hrg0 (ζ hD) hnB arF π ?_;intros
 rename_i wz hz;obtain⟨hzO,hzE⟩:=hz;have lJ:=ζ (je.o.more hzO.o hTw.o);have aoO:=ζ (hzO.o.blk ag6.out avw);have WZ:=ζ (hzO.o.blk ag5.out avv);have aoL:=ζ (hzO.o.blk alG.out avu);have ang:Hid (w3.heap.size≤wz.heap.size):=ζ hzO.o.size;have hsw:Hid (w1.heap.size≤w3.heap.size):=ζ ω;clear hrg0 afW hs0 je JF ag6 ag5 alG arF V4 avw avv avu hTw hzO hD hown q1 q1l q4 q4l e2 e2l e2f q1A e1A hEA hOA b1A b2A b4A b1 b2 b4 ane;generalize V_:gs.filter (fun x=>uX p.aU x.g)=NS at *
 have H8:=ζ ((ah.refl wz).alloc (.cells #[.slice none 0 0] 59));have b5:=ζ (aG.new wz 59 #[.slice none 0 0]);have axt:=ζ (aoO.out.grows H8.o);have axr:=ζ (WZ.out.grows H8.o);have alF:=ζ (aoL.out.grows H8.o);have YT:=ζ (hzE.o.grows H8.o);have mJ:=ζ (lJ.o.iw H8.o);have cSx:=ζ (cS.out _ mJ.o YT.o.blk);have q1:=aoO.out.c0;have q1l:=aoO.out.lt;have q4:=aoL.out.c0;have q4l:=aoL.out.lt;have p0:=WZ.out.c0;have p1:=WZ.out.c1;have p2:=WZ.out.c2;have p3:=WZ.out.c3;have p4:=WZ.out.c4;have p5:=WZ.out.c5;have p2l:=WZ.out.lt;clear cS aoO WZ aoL lJ hzE;unfold bQ.val at cSx;go_wp2_with fail;refine (cSx.out).mono ?_;rintro e w6 ⟨v6,rfl,hOX,Et⟩;have awr:=amM (fb:=fb) (ft:=ft) (p:=p.aU) (rec:=rec) H7 (q:=bJ q last) (now:=now);have hXl:(yS fb ft p.aU rec (xs.map (·.a)) (bJ q last) now).length≤1000000:=by
  have:=Oy (fb:=fb) (ft:=ft) (p:=p.aU) (rec:=rec) (l:=xs.map (·.a)) (q:=bJ q last) (now:=now);rw[List.length_map] at this;omega
 have awI:=ζ (fun (ys:List dD) (h:ys=(yS fb ft p.aU rec (xs.map (·.a)) (bJ q last) now).filterMap fun k=>xs[k]?)=>aqw h);generalize hXe:yS fb ft p.aU rec (xs.map (·.a)) (bJ q last) now=X at *
 obtain⟨A60,c60,rfl,-,-,-⟩:=hOX.arr Fe;have uz:=ζ (mJ.o.iw Et);have asx:=ζ (axt.out.grows Et);have asw:=ζ (axr.out.grows Et);have asv:=ζ (alF.out.grows Et);have Zv:=ζ (b5.out.grows Et);have Uw:=ζ (YT.o.grows Et);have hT6:Hid (∀j,j < W.heap.size→j = wz.heap.size→uF ge b gs j):=ζ (fun j hj e=>by have:=V3.o;have:=ang.o;have:=hsw.o;omega);have hA6:=ζ (fun W' (yI:nN (fun j=>j = wz.heap.size) w6 W')=>(SQ.o W' (uz.o.more yI hT6.o)).arr);have hX6:=ζ (fun W' (yI:nN (fun j=>j = wz.heap.size) w6 W')=>(hOX.off yI (fun m hm e=>aZ hOX Zv.out δ (by rw[hm,e]))).uU Fe);have anf:Hid (wz.heap.size≤w6.heap.size):=ζ (Nat.le_trans H8.o.size Et.size);clear cSx hOX Et H8 axt axr alF b5 YT mJ q1 q1l q4 q4l p0 p1 p2 p3 p4 p5 p2l;go_wp2;refine ak2 (lk:=lk) (c60:=c60) hX6 hA6 (ζ awr) Zv hXl π ?_;intros
 rename_i wk hk2;obtain⟨v5,ys,aoI,hOy,Kt,rH⟩:=hk2;obtain⟨wU,hyx,DV⟩:=awI.o ys Kt.o;obtain⟨yA,yk,rfl,-,-,-⟩:=hOy.o.arr abZ;have ZX:=ζ (uz.o.more rH.o hT6.o);have aoN:=ζ (rH.o.blk asx.out (asx.out.NJ Zv.out δ));have WY:=ζ (rH.o.blk asw.out (asw.out.NJ Zv.out δ));have aoK:=ζ (rH.o.blk asv.out (asv.out.NJ Zv.out δ));have Uu:Hid (dO wk base ge b rec now B NS):=ζ (Uw.o.other rH.o.one (fun e=>by
  injection e with e
  obtain⟨n2,-,Z4⟩:=Uw.o.map;exact Z4.aY _ _ _ (by rw[e];exact Zv.out)) (fun m hm cur te fz hc=>by injection hm with hm;subst hm;rw[Zv.out.lN hc];decide))
 have aqV:Hid (W.heap.size≤wk.heap.size):=ζ ZX.o.size;have ajI:ys.length≤12:=ω;replace wU:=ζ wU;replace hyx:=ζ hyx;clear hX6 hA6 hT6 hXe awr hXl awI uz asx asw asv Zv Uw Kt rH;have hmm:= @run_makeMap Tryz.prog;have jD:=ζ ((((ah.refl wk).alloc (.map #[] 0)).alloc (.cells #[.map (some wk.heap.size)] 122)).alloc (.cells #[.slice none 0 0] 53));have b3:=ζ ((aG.kV wk (.map #[] 0) 122 #[.map (some wk.heap.size)]).alloc (.cells #[.slice none 0 0] 53));have b6:=ζ (aG.Bh wk (.map #[] 0) (.cells #[.map (some wk.heap.size)] 122) 53 #[.slice none 0 0]);have hAM:Hid (oV (((wk.alloc (.map #[] 0)).alloc (.cells #[.map (some wk.heap.size)] 122)).alloc (.cells #[.slice none 0 0] 53)) wk.heap.size 0 []):=ζ ⟨0,Nat.le_refl _,((jg.made wk Tryz.prog 9 4).alloc _).alloc _⟩;have q1:=aoN.out.c0;have q1l:=aoN.out.lt;have q4:=aoK.out.c0;have q4l:=aoK.out.lt;have q5:=aoI.out.c0;have q5l:=aoI.out.lt;have e0:=Uu.o.blk.c0;have e0l:=Uu.o.blk.lt;have p0:=WY.out.c0;have p1:=WY.out.c1;have p2:=WY.out.c2;have p3:=WY.out.c3;have p4:=WY.out.c4;have p5:=WY.out.c5;have p2l:=WY.out.lt;go_wp2;clear q1 q1l q4 q4l q5 q5l e0 e0l p0 p1 p2 p3 p4 p5 p2l hmm;have aAp:Hid (wk.heap.size≠b):=ζ (fun e=>by
  obtain⟨n2,-,Z4⟩:=Uu.o.map;have:=Z4.lt;omega)
 have hO9:=ζ (ZX.o.iw jD.o);have aoM:=ζ (aoN.out.grows jD.o);have WX:=ζ (WY.out.grows jD.o);have aoJ:=ζ (aoK.out.grows jD.o);have aoH:=ζ (aoI.out.grows jD.o);have SX:=ζ (Uu.o.grows jD.o);have arQ:=ζ ((hOy.o.grows jD.o).bK (show W.heap.size≤w6.heap.size by have:=anf.o;have:=V3.o;have:=hsw.o;have:=ang.o;omega));have azV:=ζ jD.o.size;clear aoN WY aoK aoI Uu hOy ZX jD;generalize ((wk.alloc (.map #[] 0)).alloc (.cells #[.map (some wk.heap.size)] 122)).alloc (.cells #[.slice none 0 0] 53)=w8 at *
 have cG:=ζ (fun W' (hW:ah w8 W')=>acw (fb:=fb) (ft:=ft) (rec:=rec) (lk:=yk) (now:=now) W' (SQ.o W' (hO9.o.iw hW)).lib (SQ.o W' (hO9.o.iw hW)).aU nG YJ ((arQ.o.grows hW).uU abZ) (fun a ha=>(SQ.o W' (hO9.o.iw hW)).at_ a (hyx.o a ha)) ω);unfold bQ.val at cG;have hSK:Hid (∀W',nN (uF ge b gs) W W'→alT p ys W'):=ζ (fun W' yI=>⟨(SQ.o W' yI).aU,fun y hy=>(SQ.o W' yI).at_ y (hyx.o y hy),(SQ.o W' yI).lib,(SQ.o W' yI).utf⟩);have q1:=aoM.out.c0;have q1l:=aoM.out.lt;have q4:=aoJ.out.c0;have q4l:=aoJ.out.lt;have q5:=aoH.out.c0;have q5l:=aoH.out.lt;have e0:=SX.o.blk.c0;have e0l:=SX.o.blk.lt;have p0:=WX.out.c0;have p1:=WX.out.c1;have p2:=WX.out.c2;have p3:=WX.out.c3;have p4:=WX.out.c4;have p5:=WX.out.c5;have p2l:=WX.out.lt;have aP:=ζ (ah.refl w8);have IU:=ζ (And.intro JD (And.intro hib (And.intro YF (And.intro kR Xk))));replace nG:=ζ nG;replace YJ:=ζ YJ;clear JD hib YF kR Xk SQ;refine aF κ ?_;refine rK [0,1,2,3,4,5,6,9] 2 ?_;iterate 8 refine ay ?_
 refine aB ?_;refine aI [7] κ σ (fun wN hN hS=>(au.cons rfl (fun K' hK=> ?_) au.nil));try replace aP:=ζ (aP.o.trans hN)
 try replace hOG:=ζ (Own.grows hOG.o hN)
 try replace hGs:=ζ (Jd hGs.o hN)
 clear hN;go_simp;refine (cG.out _ aP.o).mono ?_;rintro e w9 ⟨vG,G,rfl,hOG,hGs,hGm,hb9⟩;have hbG:=ζ (show W.heap.size≤wN.heap.size by have:=aqV.o;have:=aP.o.size;have:=azV.o;omega);obtain⟨A83,c83,rfl,-,-,-⟩:=Own.arr hOG hkG;replace hOG:=ζ hOG;replace hGs:=ζ hGs;replace hGm:=ζ hGm;replace aP:=ζ (aP.o.trans hb9);refine hK.o _ _ ?_ (fun hS=> ?_)
 ·exact aP.o
 clear hb9;clear hK hS;refine rK [8] 0 ?_;iterate 1 refine ay ?_
 refine aB ?_;refine aH κ (fun wN hN hS=> ?_);try replace aP:=ζ (aP.o.trans hN)
 try replace hOG:=ζ (Own.grows hOG.o hN)
 try replace hGs:=ζ (Jd hGs.o hN)
 clear q1 q1l q4 q4l q5 q5l e0 e0l p0 p1 p2 p3 p4 p5 p2l cG hS hN;have azU:=ζ aP.o.size;have BN:Hid (oh (uF ge b gs) W wN p.cells.toArray ge wk.heap.size now yA ys.length yk ys W.heap.size (W.heap.size+1) (wk.heap.size+1) (W.heap.size+1+1) wz.heap.size (wk.heap.size+1+1) (.slice none 0 0) []):=
  ζ ⟨hO9.o.iw aP.o,aoM.out.grows aP.o,WX.out.grows aP.o,b3.out.grows aP.o,aoJ.out.grows aP.o,aoH.out.grows aP.o,b6.out.grows aP.o,(by have:=aqV.o;omega),arQ.o.grows aP.o,Own.iO _ _ _ _ _,fun x hx=>(List.not_mem_nil hx).elim⟩
 have hE9:=ζ (SX.o.grows aP.o);have Nk:Hid (wF (uF ge b gs) W NS):=ζ (fun x hx=>afq ge b gs W x (by rw[←V_] at hx;exact (List.mem_filter.1 hx).1));have aw4:Hid (oV wN wk.heap.size B []):=ζ (by
  obtain⟨n2,h2,h3⟩:=hAM.o.grows aP.o;exact⟨n2,ω,h3⟩)
 obtain⟨hgd,Fh⟩:=LK fb ft p.aU rec (ys.map (·.a)) now;have Fg:Hid (∀x∈G,Qr p.aU 12 x.g):=ζ (fun x hx=>(hgd x.g (by rw[←hGm.o];exact List.mem_map.2 ⟨x,hx,rfl⟩)).more (by rw[List.length_map];exact ajI));have hGl:G.length≤3456:=by
  rw[←hGm.o,List.length_map,List.length_map] at Fh;omega
 have hks:=ζ (And.intro hGm.o (And.intro wU.o DV));clear hgd Fh aoM WX aoJ aoH b3 b6 SX hAM arQ hO9 aP hGm wU DV hyx;go_wp2;refine ak1 (fb:=fb) (p:=p) (S:=uF ge b gs) (w0:=W) (B:=B) (gs:=NS) (G:=G) hSK nG BN hE9 Nk aw4 aAp.o aqV.o (ζ (.inr (.inl rfl))) hlb (ζ ω) hn0 (ζ hn1) ajI hOG hGs hbG.o Fg π ?_;intros
 rename_i wl hl3;obtain⟨gs3,v3,ls3,SL,JF,arS,ZY,avL,IW,avK⟩:=hl3;have abU:Dx fb ft p.aU rec ⟨n0,dK gs⟩ (xs.map (·.a)) (bJ q last) now=Dw (fun x n=>jY fb p.aU rec x (ys.map (·.a)) n now) p.aU now (dK NS) G G.length:=by
  obtain⟨h1,h2,-⟩:=hks.o;unfold Dx Dw;rw[List.take_length,h1,←h2,←V_,agf]
 replace abU:=ζ abU;clear hks V_ hSK nG YJ IU Fg hGs hOG hbG Nk aw4 hE9 BN azU Jz H7 ajI;generalize Dw (fun x n=>jY fb p.aU rec x (ys.map (·.a)) n now) p.aU now (dK NS) G G.length=T at *
 obtain⟨n4,aFT,D4,apa,hD4⟩:=JF.o.map;have q1:=SL.o.b1.c0;have q1l:=SL.o.b1.lt;have e1:=JF.o.blk.c1;have e1l:=JF.o.blk.lt;go_wp2_with (first
  | (at_range;refine wpList_range_own _ rfl _ 116 rfl 9 120 Aq Tryz.underlying116 yU b n4 D4 rfl apa ?_;intro w5 Kv Wh hs5)
  | go_in)
 go_frame
 have mJ:=ζ (SL.o.off.next Wh (fun k hk=>by cases hk));have YT:=ζ (JF.o.other Wh σ (fun m hm=>by cases hm));have axq:=ζ (SL.o.b3.aQ Wh σ);have alF:=ζ (SL.o.b4.aQ Wh σ);have axp:=ζ (SL.o.b6.aQ Wh σ);have hM5:=ζ (ZY.o.kept Wh σ);have apC:=ζ (SL.o.out.kept' Wh (fun j hj=>by cases hj));have aku:=ζ (fun x hx=>(SL.o.outs x hx).row Wh (fun m hm=>by cases hm));have azT:=ζ SL.o.off.size;clear q1 q1l e1 e1l SL JF ZY apa Wh hs5;refine ak0 (base:=base) (ge:=ge) (rec:=rec) (now:=now) (gs:=gs3) (asked:=T.asked) (ab:=wk.heap.size) (B:=B+G.length) axq alF hM5 YT Kv (ζ hD4) hn0 (ζ hn1) π ?_;intros
 rename_i wm hm4;obtain⟨gs4,hE4,hg4,av1,awi,lJ,Wq⟩:=hm4;have asu:=Wq.o.blk axp.out δ;have q6:=asu.c0;have q6l:=asu.lt;have apm:Hid (nN (uF ge b gs) W wm):=ζ (mJ.o.more lJ.o (fun j hj hT=>by
  rcases hT with rfl | ⟨x,hx,rfl⟩
  ·have:=azT.o;omega
  ·rcases (arS.o x hx).2 with h1 | h1
   ·exact h1
   ·omega))
 have aN:Hid (∃(v:Value) (ls:List fO) (gs':List GX),(.returned (.tuple #[v3,.int .i64 0]):Ending)=.returned (.tuple #[v,.int .i64 0])∧dO wm base ge b rec now (B+3456) gs'∧wF (uF ge b gs) W gs'∧Own wm W.heap.size 64 6 kE v ls∧(∀x∈ls,dH wm W.heap.size x)∧ls.length≤B+3456∧nN (uF ge b gs) W wm∧dK gs'=T.gs.map (GU T.asked now)∧ls.map (·.xM)=T.out):=
  ζ ⟨v3,ls3,gs4,rfl,hE4.o.more ω,arS.o.same av1.o awi.o,uh.own apC.o Wq.o δ,fun x hx=>(aku.o x hx).tkq Wq.o δ δ,by have:=avL.o;omega,apm.o,by rw[hg4.o,IW.o],avK.o⟩
 clear hE4 hg4 av1 awi lJ Wq apm mJ YT axq alF axp hM5 apC aku arS avL IW avK asu Kv hD4;go_wp2;go_ret2;rw[abU.o];exact aN.o
section
variable {w w' w0:World} {base bl ge b B gq bq last:Nat} {rec:List UInt8} {now:Int} {gs:List GX} {q:QX}
theorem P6 (hE:dO w base ge b rec now B gs) {g:Nat} {te:TypeId} {cs:Array Value} (hB:aG w g te cs) (ht:te∉Y7):¬uF ge b gs g:=fun h=>by
 have hT:∀{g':Nat} {t':TypeId} {cs':Array Value},aG w g' t' cs'→t'∈Y7→g≠g':=fun JH ht'=>hB.NJ JH (fun e=>ht (e ▸ ht'))
 rcases h with h | h | ⟨x,hx,h | h⟩
 ·exact hT hE.blk δ h
 ·obtain⟨n,-,hM⟩:=hE.map;exact hM.aY _ _ _ (by rw[←h];exact hB)
 ·exact hT (hE.at_ x hx).blk δ h
 ·exact hT (hE.at_ x hx).jH.blk δ h
theorem ak5 (hE:dO w base ge b rec now B gs) {g:Nat} (hg:g≠b) (hm:∀cur e fz,w.heap[g]?≠some (.cells cur e fz)):¬uF ge b gs g:=fun h=>by
 rcases h with h | h | ⟨x,hx,h | h⟩
 ·exact hm _ _ _ (by rw[h];exact hE.blk)
 ·exact hg h
 ·exact hm _ _ _ (by rw[h];exact (hE.at_ x hx).blk)
 ·exact hm _ _ _ (by rw[h];exact (hE.at_ x hx).jH.blk)
theorem adS (hE:dO w base ge b rec now B gs) {k:Nat} (h:uF ge b gs k):base≤k:=by
 rcases h with h | h | ⟨x,hx,h | h⟩
 ·rw[h];exact hE.ege
 ·rw[h];exact hE.Zp
 ·rw[h];exact (hE.at_ x hx).Z9
 ·rw[h];exact (hE.at_ x hx).cge
theorem nN.grown {S:Nat→Prop} (h:nN S w w') (hg:ah w0 w) (hS:∀k,S k→w0.heap.size≤k):ah w0 w':=
 hg.iw ⟨h.os,h.tape,h.output,h.size,fun k hk=>h.block k (Nat.lt_of_lt_of_le hk hg.size) (fun e=>by have:=hS k e;omega)⟩
theorem jl.aqA {S:Nat→Prop} (h:jl w bl gq bq q last) (hO:nN S w w') (h1:¬S gq) (h2:¬S bq) (h3:∀x∈q,∀m,(Value.slice x.2.A x.2.m x.2.k).ownBlock=some m→¬S m):jl w' bl gq bq q last:=by
 refine⟨hO.blk h.blk h1,?_,h.asc,h.le,h.top,fun x hx=>(h.Ep x hx).off hO (h3 x hx),h.ok⟩;have hl:=h.map.lt;obtain⟨es,clock,he,hr⟩:=h.map;exact⟨es,clock,(hO.block bq hl h2).trans he,hr⟩
theorem jl.off (h:jl w bl gq bq q last) (hE:dO w base ge b rec now B gs) (hne:bq≠b) (hO:nN (uF ge b gs) w w'):jl w' bl gq bq q last:=
 h.aqA hO (P6 hE h.blk δ) (ak5 hE hne h.map.aY) (fun x hx m hm=>by
  obtain⟨cur,hc⟩:=bV (h.Ep x hx) hm;intro hS;rcases hS with e | e | ⟨y,hy,e | e⟩
  ·exact aZ (h.Ep x hx) hE.blk δ (by rw[hm,e])
  ·obtain⟨n,-,hM⟩:=hE.map;exact hM.aY _ _ _ (by rw[←e];exact hc)
  ·exact aZ (h.Ep x hx) (hE.at_ y hy).blk δ (by rw[hm,e])
  ·exact aZ (h.Ep x hx) (hE.at_ y hy).jH.blk δ (by rw[hm,e]))
theorem Own.P5 {α:Type} {b0 k:Nat} {e:TypeId} {enc:α→List Value} {v:Value} {xs:List α} (h:Own w b0 e k enc v xs) (hE:dO w base ge b rec now B gs) (he:e∉Y7) (hO:nN (uF ge b gs) w w'):Own w' b0 e k enc v xs:=
 h.off hO (fun m hm=>by
  obtain⟨cs,hB⟩:=(h.nZ m hm).2;exact P6 hE hB he)
end
theorem acD {fb:cu→Bool} {ft:List bM→cu→Bool} {p:bQ} {base bl ge b B gq bq last:Nat} {rec:List UInt8} {n0 now:Int} {gs:List GX} {lA:Option Addr} {lm lk:Nat} {xs:List dD} {q:QX} (w0 W:World) (hW:ah w0 W) (hb:w0.heap.size≤base) (he:oJ w0) (hu:oI w0) (hp:p.At w0) (hat:∀x∈xs,x.At w0)
 (hA:∀W',nN (uF ge b gs) W W'→bW W' 6 tH lA lm xs) (hL:jl W bl gq bq q last) (hne:bq≠b) (nG:lW fb p) (YJ:Js ft p) (JD:Qs ft p) (hib:∀r∈p.i,r.bm≤1000000) (YF:p.im≤1000) (kR:aec ft q) (Xk:q.length≤60000)
 (hE:dO W base ge b rec n0 B gs) (hlb:base≤W.heap.size) (hB:B+3456≤1000000) (Jz:lm≤12) (afS:yZ fb p.aU rec ⟨n0,dK gs⟩ now=0) :
 Calls Tryz.prog 13 #[.pointer (some ⟨ge,0,none⟩),p.val,.slice lA lm lk,.pointer (some ⟨gq,0,none⟩),.int .i64 now] W (DC fb ft p rec W base ge b B n0 now gs xs (bJ q last)):=by
 refine agC (bl:=bl) (gq:=gq) (bq:=bq) (last:=last) W (fun W' yI=> ?_) nG YJ JD hib YF kR Xk hE hlb hB Jz afS;have hg:=yI.grown hW (fun k hk=>Nat.le_trans hb (adS hE hk));exact⟨hp.keep hg,hA W' yI,fun x hx=>(hat x hx).keep hg,hL.off hE hne yI,he.grows hg,hu.grows hg⟩
theorem akZ {fb:cu→Bool} {p:bQ} {rec:List UInt8} {st:Eng} {now:Int} {ge b:Nat} {lv sv:Value} (W:World) (hp:p.At W) (nG:lW fb p) (hE:aG W ge 118 #[.string ⟨rec.toArray⟩,.map (some b),.int .i64 st.now]) (afS:yZ fb p.aU rec st now≠0) :
 Calls Tryz.prog 13 #[.pointer (some ⟨ge,0,none⟩),p.val,lv,sv,.int .i64 now] W fun e W'=>e =.returned (.tuple #[.slice none 0 0,.int .i64 (yZ fb p.aU rec st now)])∧ah W W':=by
 have cM:=ζ (fun W' (hW:ah W W')=>adr (fb:=fb) (p:=p) (st:=st) (now:=now) (b:=b) W' (hp.keep hW) nG (hE.grows hW));have hg0:ah W (((W.alloc (.cells #[.pointer (some ⟨ge,0,none⟩)] 51)).alloc (.cells #[.slice p.s.A p.s.m p.s.k,.slice p.r.A p.r.m p.r.k,.slice p.e.A p.e.m p.e.k,.slice p.a.A p.a.m p.a.k,.slice p.oA p.om p.ok,.slice p.iA p.im p.ik] 50)).alloc (.cells #[.int .i64 now] 3)):=(((ah.refl W).alloc _).alloc _).alloc _;generalize yZ fb p.aU rec st now=M at *
 replace hg0:=ζ hg0;unfold bQ.val at *
 clear hp hE;go_enter Tryz.func13,Tryz.ntmps13
 go_wp2_with fail;refine (cM.out _ hg0.o).mono ?_;rintro e w1 ⟨rfl,hb1⟩;have hG:=ζ (hg0.o.trans hb1);clear hg0 hb1 cM;go_wp2;go_ret2;exact⟨rfl,hG.o⟩
theorem aj9 (x:fO):(kE x).length=6:=rfl
theorem agH {w:World} {base ge b:Nat} {rec:List UInt8} (hB:aG w ge 118 #[.string ⟨rec.toArray⟩,.map (some b),.int .i64 (-1)]) (hM:wH w b 0 []) (h1:base≤ge) (h2:base≤b):dO w base ge b rec (-1) 0 []:=
 ⟨hB,⟨0,Nat.le_refl _,hM⟩,List.nodup_nil,List.nodup_nil,List.nodup_nil,fun _ hx=>(List.not_mem_nil hx).elim,fun _ hx=>(List.not_mem_nil hx).elim,fun _ hx=>(List.not_mem_nil hx).elim,h1,h2⟩
end Go.Proofs.YtbhikkgpcmkonaaGreatDoor
namespace Go.Proofs.YtbhikkgpcmkonaaGreatDoor
open Go.RowKit
structure uK (w0 W:World) (base:Nat) (y:g_):Prop where
 o:Own W base 88 2 dZ (.slice y.a.A y.a.m y.a.k) y.a.a.fs
 le:y.a.m≤1000
 Jy:y.a.a.l.ok
 s:y.s.At w0
theorem uK.grows {w0 W W':World} {base:Nat} {y:g_} (h:uK w0 W base y) (hg:ah W W'):uK w0 W' base y:=⟨h.o.grows hg,h.le,h.Jy,h.s⟩
theorem uK.tkp {w0 W W':World} {base b:Nat} {y:g_} (h:uK w0 W base y) (hg:Jo evT b W W'):uK w0 W' base y:=⟨Jo.own h.o hg δ,h.le,h.Jy,h.s⟩
theorem uK.at_ {w0 W:World} {base:Nat} {y:g_} (h:uK w0 W base y) (hg:ah w0 W):y.At W:=by
 refine⟨⟨?_,h.le,h.Jy⟩,h.s.keep hg⟩;obtain⟨A,c,e,-,-,hX⟩:=h.o.arr JB;injection e with e1 e2 e3
 rw[e1,e2];exact hX
theorem uK.bK {w0 W:World} {base b':Nat} {y:g_} (h:uK w0 W base y) (hb:b'≤base):uK w0 W b' y:=⟨h.o.bK hb,h.le,h.Jy,h.s⟩
theorem uK.step {w0 W W':World} {base b:Nat} {ys:List g_} {y:g_} {may:Bool} (h:∀z∈ys,uK w0 W base z) (hT:Jo evT b W W') (hy:may=true→uK w0 W base y):∀z∈(if may then ys++[y] else ys),uK w0 W' base z:=by
 intro z hz;cases may with
 | false=>exact (h z hz).tkp hT
 | true=>
  rcases List.mem_append.1 hz with h1 | h1
  ·exact (h z h1).tkp hT
  ·rw[List.mem_singleton] at h1;subst h1;exact (hy rfl).tkp hT
def RS:dD:=⟨Ae,none,0,0⟩
def Na:yG:=⟨vI,none,0,0⟩
theorem NM:(⟨0,0⟩:gy).ok:=by unfold gy.ok;simp only;decide
theorem Af (w:World):Na.At w:=⟨⟨rfl,fun h0=>absurd h0 δ⟩,δ,NM⟩
theorem agM {w0 W:World} {base:Nat} {a:iH} {A:Option Addr} {ck:Nat} (h:Own W base 88 2 dZ (.slice A a.fs.length ck) a.fs) (hl:a.fs.length≤1000) (hb:a.l.ok):uK w0 W base ⟨0,⟨a,A,a.fs.length,ck⟩,Na,0⟩:=⟨h,hl,hb,Af w0⟩
theorem agN {w0 W:World} {base:Nat} {s:yG} (h:s.At w0):uK w0 W base ⟨1,RS,s,0⟩:=⟨Own.iO _ _ _ _ _,Nat.zero_le _,NM,h⟩
theorem agL {w0 W:World} {base:Nat} (now:Int):uK w0 W base ⟨2,RS,Na,now⟩:=⟨Own.iO _ _ _ _ _,Nat.zero_le _,NM,Af w0⟩
theorem agO {p:fQ} {tt:gy} {xs:List g_} {k:Nat} {x:g_} (h:xs[k]? = some x):jv p ((xs.take (k+1)).map (·.e)) tt=jv p ((xs.take k).map (·.e)) tt++(sD p tt x.e).toList:=by
 rw[List.take_add_one,h,List.map_append];exact agP p tt _ _
theorem Ap {w wr w6:World} {b:Nat} {v:Value} {ys:List g_} {y:g_} {may:Bool} {Fk F':List zO} {gp gl:Nat} {PC LC:Array Value} (hb:w.heap.size≤b) (hBo:Hid (aG wr b 98 #[v])) (Pv:Hid (Own wr b 166 13 su v ys)) (Kt:Hid (ys.map (·.e)=Fk)) (hCy:Hid (∀y∈ys,uK w wr b y)) (hB:Hid (aG wr gp 50 PC)) (hL:Hid (aG wr gl 25 LC)) (hG:Hid (ah w wr)) (C_:Hid (ah wr w6)) (DV:ys.length≤1000)
 (hy:may=true→uK w w6 b y) (hF:F'=Fk++(if may then [y.e] else [])) :
 Calls Tryz.prog 71 #[Ve y,.bool may,.pointer (some ⟨b,0,none⟩)] w6 fun e w'=>e =.returned (.tuple #[])∧∃(v':Value) (ys':List g_),Hid (aG w' b 98 #[v'])∧Hid (Own w' b 166 13 su v' ys')∧Hid (ys'.map (·.e)=F')∧Hid (∀y∈ys',uK w w' b y)∧Hid (aG w' gp 50 PC)∧Hid (aG w' gl 25 LC)∧Hid (ah w w'):=by
 refine (ajr (y:=y) (may:=may) w6 (hBo.o.grows C_.o) (Pv.o.grows C_.o) (Nat.le_refl b) ω).mono ?_;rintro e w' ⟨rfl,v',h1,h2,h3⟩;have Fq:=hG.o.trans C_.o;refine⟨rfl,v',_,ζ h1,ζ h2,ζ ?_,ζ (uK.step (fun z hz=>(hCy.o z hz).grows C_.o) h3 hy),ζ (h3.blk (hB.o.grows C_.o) δ),ζ (h3.blk (hL.o.grows C_.o) δ),ζ (Jo.out Fq h3 hb)⟩;rw[hF,←Kt.o];cases may <;> simp
theorem aoo {p:fQ} {a c:iH} {tt:gy} (h:iR p a tt=some c):c.fs.length≤a.fs.length∧c.l = a.l:=by
 obtain⟨rfl,-,-⟩:=zF h;exact⟨mY p a.fs a.l tt,rfl⟩
theorem ahX {p:bQ} {tt:gy} {lA:Option Addr} {lm lk:Nat} {xs:List g_} (w:World) (hp:p.At w) (oC:tt.ok) (hA:bW w 13 su lA lm xs) (hat:∀x∈xs,x.At w) (Jz:lm≤1000) :
 Calls Tryz.prog 36 #[p.val,.slice lA lm lk,.agg #[.int .i64 tt.lv,.int .u32 (tt.c:Int)]] w fun e w'=>∃v ys,e =.returned v∧Own w' w.heap.size 166 13 su v ys∧ys.map (·.e)=jv p.aU (xs.map (·.e)) tt∧(∀y∈ys,uK w w' w.heap.size y)∧ah w w':=by
 have kN:=hA.1;have cC:=ζ (fun (x:g_) (hx:x∈xs) W (hW:ah w W)=>DZ W (hp.keep hW) ((hat x hx).a.keep hW) oC);have cF:=ζ (fun (x:g_) (hx:x∈xs) W=>vO x.s.s.l tt W (hat x hx).s.Jy oC);have aN:jv p.aU (xs.map (·.e)) tt=jv p.aU ((xs.take lm).map (·.e)) tt:=by rw[List.take_of_length_le ω]
 rw[aN];have hst:=ζ (fun k (x:g_) (hr:xs[k]? = some x)=>agO (p:=p.aU) (tt:=tt) hr);have hlen:=ζ (fun k=>show (jv p.aU ((xs.take k).map (·.e)) tt).length≤k by
  unfold jv;refine Nat.le_trans (List.length_filterMap_le ..) ?_;rw[List.length_map,List.length_take];omega)
 have Nq:jv p.aU ((xs.take 0).map (·.e)) tt=[]:=rfl;have Pn:=ζ (fun (x:g_) (hx:x∈xs) c (hc:iR p.aU x.a.a tt=some c)=>show c.fs.length≤1000∧c.l.ok by
  obtain⟨h1,h2⟩:=aoo hc;have h3:=(hat x hx).a;have h4:=h3.le;have h5:=h3.arr.1;exact⟨ω,by rw[h2];exact h3.Jy⟩)
 have Sl:=ζ (fun (x:g_) (hx:x∈xs)=>(hat x hx).s);unfold sD at hst;generalize hF:(fun k=>jv p.aU ((xs.take k).map (·.e)) tt)=F at *
 have hFk:∀k,jv p.aU ((xs.take k).map (·.e)) tt=F k:=fun k=>by rw[←hF]
 simp only[hFk] at *
 clear hF hFk aN hp hat kN;replace hA:=ζ hA;generalize hpp:p.aU=aU at *
 unfold bQ.val at *
 clear hpp;obtain⟨⟨sl,sA,sm,sk⟩,⟨rl,rA,rm,rk⟩,⟨el,eA,em,ek⟩,⟨al,aA,am,ak⟩,o,oA,om,ok,i,iA,im,ik⟩:=p;simp only at cC ⊢;go_enter Tryz.func36,Tryz.ntmps36
 go_wp2;go_loopw [10,11,12,16] (fun _ _ _ i wr=>∃(k:Nat) (v:Value) (ys:List g_),k≤lm∧i =.int .i64 k∧Hid (aG wr (w.heap.size+2) 98 #[v])∧Hid (Own wr (w.heap.size+2) 166 13 su v ys)∧Hid (ys.map (·.e)=F k)∧Hid (∀y∈ys,uK w wr (w.heap.size+2) y)∧Hid (aG wr w.heap.size 50 #[.slice sA sm sk,.slice rA rm rk,.slice eA em ek,.slice aA am ak,.slice oA om ok,.slice iA im ik])∧Hid (aG wr (w.heap.size+1) 25 #[.int .i64 tt.lv,.int .u32 (tt.c:Int)])∧Hid (ah w wr)) (fun _ _ _ i _=>lm-(intOf i).toNat)
 case atStart=>exact⟨0,_,[],ω,rfl,(aG.Bh w _ _ _ _),Own.iO _ _ _ _ _,ζ (by rw[Nq];rfl),ζ σ,((aG.new w _ _).alloc _).alloc _,(aG.kV w _ _ _).alloc _,(((ah.refl w).alloc _).alloc _).alloc _⟩
 case round=>
  obtain⟨k,v,ys,hk,rfl,hBo,Pv,Kt,hCy,hB,hL,hG⟩:=hrel;by_cases qC:k<lm
  ·obtain⟨bb,off,x,rfl,CW,hx,hcell⟩:=(hA.o.keep hG.o).at_ qC;have c0:wr.cell? ⟨bb,off+k*13,none⟩=some (.int .i64 x.k):=hcell 0 _ rfl;have c1:wr.cell? ⟨bb,off+k*13+1,none⟩=some (.string ⟨x.a.a.src.toArray⟩):=hcell 1 _ rfl;have c2:wr.cell? ⟨bb,off+k*13+2,none⟩=some (.slice x.a.A x.a.m x.a.k):=hcell 2 _ rfl;have c3:wr.cell? ⟨bb,off+k*13+3,none⟩=some (.int .i64 x.a.a.l.lv):=hcell 3 _ rfl;have c4:wr.cell? ⟨bb,off+k*13+4,none⟩=some (.int .u32 (x.a.a.l.c:Int)):=hcell 4 _ rfl;have c5:wr.cell? ⟨bb,off+k*13+5,none⟩=some (.int .i64 x.a.a.f):=hcell 5 _ rfl;have c6:wr.cell? ⟨bb,off+k*13+6,none⟩=some (.int .i64 x.a.a.t):=hcell 6 _ rfl;have c7:wr.cell? ⟨bb,off+k*13+7,none⟩=some (.slice x.s.A x.s.m x.s.k):=hcell 7 _ rfl;have c8:wr.cell? ⟨bb,off+k*13+8,none⟩=some (.int .i64 x.s.s.f):=hcell 8 _ rfl;have c9:wr.cell? ⟨bb,off+k*13+9,none⟩=some (.int .i64 x.s.s.t):=hcell 9 _ rfl;have c10:wr.cell? ⟨bb,off+k*13+10,none⟩=some (.int .i64 x.s.s.l.lv):=hcell 10 _ rfl;have c11:wr.cell? ⟨bb,off+k*13+11,none⟩=some (.int .u32 (x.s.s.l.c:Int)):=hcell 11 _ rfl;have c12:wr.cell? ⟨bb,off+k*13+12,none⟩=some (.int .i64 x.now):=hcell 12 _ rfl;have kX:(k:Int)<(lm:Int):=ω;have wL:=List.mem_of_getElem? hx;have hs1:=ζ (hst.o k x hx);have UY:=ζ (cC.out x wL);have KU:=ζ (cF.out x wL);have hcx:=ζ (Pn.o x wL);have aqX:=ζ (Sl.o x wL);have DV:ys.length≤1000:=by
    have h1:=congrArg List.length Kt.o;have h2:=hlen.o k;rw[List.length_map] at h1;omega
   have Ux:=hB.o;have hLc:=hL.o;have p0:=Ux.cell 0;have p1:=Ux.cell 1;have p2:=Ux.cell 2;have p3:=Ux.cell 3;have p4:=Ux.cell 4;have p5:=Ux.cell 5;have q0:=hLc.cell 0;have q1:=hLc.cell 1;simp only[List.getElem?_toArray,List.getElem?_cons_zero,List.getElem?_cons_succ] at p0 p1 p2 p3 p4 p5 q0 q1;have pz:=Ux.lt;have qz:=hLc.lt;have hsz:=hG.o.size;unfold iV at UY;clear hcell hx Ux hLc cC cF Pn Sl hst wL;by_cases h0:x.k=0
   ·have h0z:(x.k==0)=true:=by simp[h0]
    simp only[g_.e,h0,if_true] at hs1;rw[h0] at c0;clear h0;generalize iR aU x.a.a tt=CU at *
    go_wp2_with fail;refine (UY.out _ (hG.o.alloc _)).mono ?_;rintro e w5 ⟨v5,rfl,ZM,fK⟩;have H8:=ζ (((ah.refl wr).alloc (.cells #[.int .i64 0,.string ⟨x.a.a.src.toArray⟩,.slice x.a.A x.a.m x.a.k,.int .i64 x.a.a.l.lv,.int .u32 (x.a.a.l.c:Int),.int .i64 x.a.a.f,.int .i64 x.a.a.t,.slice x.s.A x.s.m x.s.k,.int .i64 x.s.s.f,.int .i64 x.s.s.t,.int .i64 x.s.s.l.lv,.int .u32 (x.s.s.l.c:Int),.int .i64 x.now] 166)).trans fK);clear fK c0 c1 c2 c3 c4 c5 c6 c7 c8 c9 c10 c11 c12 p0 p1 p2 p3 p4 p5 q0 q1;cases CU with
    | none=>
     obtain rfl:v5=jP:=ZM;have C_:=ζ (H8.o.alloc (.cells BP 57));unfold jP;simp only[Option.isSome_none];go_wp2_with fail;refine (Ap (y:=⟨0,RS,Na,0⟩) (F':=F (k+1)) ω hBo Pv Kt hCy hB hL hG C_ DV σ (by rw[hs1.o];simp)).mono ?_;rintro e w7 ⟨rfl,v7,ys7,acr,acf,abK,acp,t_,hL7,Xo⟩;clear hBo Pv Kt hCy hB hL hG H8 C_ hs1;go_wp2;go_roundw
     case rel=>exact⟨k+1,v7,ys7,ω,ν,acr,acf,abK,acp,t_,hL7,Xo⟩
     case measure=>exact ψ
    | some c=>
     obtain⟨cA,ck,hce,kY⟩:=ZM;obtain⟨qF,hcb⟩:=hcx.o c rfl;unfold iV at hce;subst hce;have C_:=ζ (H8.o.alloc (.cells #[.string ⟨c.src.toArray⟩,.slice cA c.fs.length ck,.int .i64 c.l.lv,.int .u32 (c.l.c:Int),.int .i64 c.f,.int .i64 c.t] 57));have uz:=kY.alloc (.cells #[.string ⟨c.src.toArray⟩,.slice cA c.fs.length ck,.int .i64 c.l.lv,.int .u32 (c.l.c:Int),.int .i64 c.f,.int .i64 c.t] 57);simp only[Option.isSome_some];go_wp2_with fail;refine (Ap (y:=⟨0,⟨c,cA,c.fs.length,ck⟩,Na,0⟩) (F':=F (k+1)) ω hBo Pv Kt hCy hB hL hG C_ DV (fun _=>agM (uz.bK (by simp;omega)) qF hcb) (by rw[hs1.o];simp[g_.e,Na])).mono ?_;rintro e w7 ⟨rfl,v7,ys7,acr,acf,abK,acp,t_,hL7,Xo⟩;clear hBo Pv Kt hCy hB hL hG H8 C_ hs1 uz kY;go_wp2;go_roundw
     case rel=>exact⟨k+1,v7,ys7,ω,ν,acr,acf,abK,acp,t_,hL7,Xo⟩
     case measure=>exact ψ
   ·have h0z:(x.k==0)=false:=by simp[h0]
    by_cases h1:x.k=1
    ·have h1z:(x.k==1)=true:=by simp[h1]
     have H8:=ζ ((ah.refl wr).alloc (.cells #[.int .i64 1,.string ⟨x.a.a.src.toArray⟩,.slice x.a.A x.a.m x.a.k,.int .i64 x.a.a.l.lv,.int .u32 (x.a.a.l.c:Int),.int .i64 x.a.a.f,.int .i64 x.a.a.t,.slice x.s.A x.s.m x.s.k,.int .i64 x.s.s.f,.int .i64 x.s.s.t,.int .i64 x.s.s.l.lv,.int .u32 (x.s.s.l.c:Int),.int .i64 x.now] 166));simp only[g_.e,h1,if_true] at hs1;rw[h1] at c0;clear h1 h0 UY hcx;go_wp2_with fail;generalize eU x.s.s.l tt=FL at *
     have azY:=aqX.o;refine aF κ ?_;refine rK (.range 9) 1 ?_;iterate 8 refine ay ?_
     refine aT (.bool FL) rfl χ (fun wq dN=> ?_) ?_
     ·obtain⟨lu,kR⟩:=bF dN;go_simp;exact Calls.mono (KU.out wq) (fun e w'' h=>h)
     go_simp;refine aB ?_;refine eG (i:=9) rfl κ κ (fun wN hN hS K' hK=> ?_);clear hS;have C_:=ζ (H8.o.trans hN);go_simp;refine (Ap (y:=⟨1,RS,x.s,0⟩) (F':=F (k+1)) (may:=FL) ω hBo Pv Kt hCy hB hL hG C_ DV (fun _=>agN azY) (by rw[hs1.o];cases FL <;> simp[g_.e,RS])).mono ?_;rintro e w7 ⟨rfl,v7,ys7,acr,acf,abK,acp,t_,hL7,Xo⟩;refine hK.o _ _ ?_;clear hK;clear hBo Pv Kt hCy hB hL hG hs1;go_wp2;go_roundw
     case rel=>exact⟨k+1,v7,ys7,ω,ν,acr,acf,abK,acp,t_,hL7,Xo⟩
     case measure=>exact ψ
    ·have h1z:(x.k==1)=false:=by simp[h1]
     by_cases h2:x.k=2
     ·have h2z:(x.k==2)=true:=by simp[h2]
      have C_:=ζ ((ah.refl wr).alloc (.cells #[.int .i64 2,.string ⟨x.a.a.src.toArray⟩,.slice x.a.A x.a.m x.a.k,.int .i64 x.a.a.l.lv,.int .u32 (x.a.a.l.c:Int),.int .i64 x.a.a.f,.int .i64 x.a.a.t,.slice x.s.A x.s.m x.s.k,.int .i64 x.s.s.f,.int .i64 x.s.s.t,.int .i64 x.s.s.l.lv,.int .u32 (x.s.s.l.c:Int),.int .i64 x.now] 166));simp only[g_.e,h2,if_true] at hs1;rw[h2] at c0;clear h1 h0 h2 UY hcx KU aqX;go_wp2_with fail;refine (Ap (y:=⟨2,RS,Na,x.now⟩) (F':=F (k+1)) (may:=true) ω hBo Pv Kt hCy hB hL hG C_ DV (fun _=>agL _) (by rw[hs1.o];simp[g_.e,Na,RS])).mono ?_;rintro e w7 ⟨rfl,v7,ys7,acr,acf,abK,acp,t_,hL7,Xo⟩;clear hBo Pv Kt hCy hB hL hG C_ hs1;go_wp2;go_roundw
      case rel=>exact⟨k+1,v7,ys7,ω,ν,acr,acf,abK,acp,t_,hL7,Xo⟩
      case measure=>exact ψ
     ·have h2z:(x.k==2)=false:=by simp[h2]
      have C_:=ζ ((ah.refl wr).alloc (.cells #[.int .i64 x.k,.string ⟨x.a.a.src.toArray⟩,.slice x.a.A x.a.m x.a.k,.int .i64 x.a.a.l.lv,.int .u32 (x.a.a.l.c:Int),.int .i64 x.a.a.f,.int .i64 x.a.a.t,.slice x.s.A x.s.m x.s.k,.int .i64 x.s.s.f,.int .i64 x.s.s.t,.int .i64 x.s.s.l.lv,.int .u32 (x.s.s.l.c:Int),.int .i64 x.now] 166));simp only[g_.e,h0,h1,h2,if_false,Option.toList_none,List.append_nil] at hs1;clear UY hcx KU aqX;go_wp2;go_roundw
      case rel=>exact⟨k+1,v,ys,ω,ν,hBo.o.grows C_.o,Pv.o.grows C_.o,by rw[hs1.o];exact Kt,fun y hy=>(hCy.o y hy).grows C_.o,hB.o.grows C_.o,hL.o.grows C_.o,hG.o.trans C_.o⟩
      case measure=>exact ψ
  ·obtain rfl:k=lm:=ω;have Ux:=hBo.o;have c0:=Ux.c0;have cl:=Ux.lt;go_wp2;go_ret;exact⟨v,ys,rfl,Pv.o.bK ω,Kt.o,fun y hy=>(hCy.o y hy).bK ω,hG.o⟩
structure zJ (w:World) (A:Option Addr) (m:Nat) (ys:List g_):Prop where
 arr:bW w 13 su A m ys
 at_:∀y∈ys,y.At w
 le:m≤1000
theorem zJ.keep {w w':World} {A:Option Addr} {m:Nat} {ys:List g_} (h:zJ w A m ys) (hg:ah w w'):zJ w' A m ys:=⟨h.arr.keep hg,fun y hy=>(h.at_ y hy).keep hg,h.le⟩
theorem hkE:∀x,(su x).length=13:=fun _=>rfl
theorem yO {p:bQ} {tt:gy} {lA:Option Addr} {lm lk:Nat} {xs:List g_} (w:World) (hp:p.At w) (oC:tt.ok) (hA:zJ w lA lm xs) :
 Calls Tryz.prog 36 #[p.val,.slice lA lm lk,.agg #[.int .i64 tt.lv,.int .u32 (tt.c:Int)]] w fun e w'=>∃A m c ys,e =.returned (.slice A m c)∧zJ w' A m ys∧ys.map (·.e)=jv p.aU (xs.map (·.e)) tt∧ah w w':=by
 refine (ahX w hp oC hA.arr hA.at_ hA.le).mono ?_;rintro e w' ⟨v,ys,rfl,hO,hm,hy,hG⟩;obtain⟨A,c,rfl,-,-,hX⟩:=hO.arr hkE;refine⟨A,ys.length,c,ys,rfl,⟨hX,fun y hy'=>(hy y hy').at_ hG,?_⟩,hm,hG⟩;have h1:=congrArg List.length hm;have h2:(jv p.aU (xs.map (·.e)) tt).length≤(xs.map (·.e)).length:=by unfold jv;exact List.length_filterMap_le ..
 have h3:=hA.arr.1;have h4:=hA.le;rw[List.length_map] at h1 h2;omega
theorem akY {A B:Option Addr} {m c m' c':Nat} {xs ys:List g_} (w:World) (hx:zJ w A m xs) (hy:zJ w B m' ys) :
 Calls Tryz.prog 68 #[.slice A m c,.slice B m' c',.func (.func 69) #[] #[]] w fun e w'=>e =.returned (.bool (decide (xs.map (·.e)=ys.map (·.e))))∧ah w w':=by
 have h:=agG 69 (enters_of Tryz.func69 κ rfl) (fun a b=>decide (a.e = b.e)) A B m c m' c' xs ys w hx.arr hy.arr (by have:=hx.le;omega) (by have:=hy.le;omega) (fun a ha b hb V hV=>agD a b V ((hx.at_ a ha).keep hV) ((hy.at_ b hb).keep hV));rw[PZ (f:=fun a:g_=>a.e) (fun a _ b _=>rfl)] at h;exact h
theorem Gg {p:bQ} {tt:gy} {A B:Option Addr} {m c m' c':Nat} {xs ys:List g_} (w:World) (hp:p.At w) (oC:tt.ok) (hx:zJ w A m xs) (hy:zJ w B m' ys) :
 Calls Tryz.prog 33 #[p.val,.slice A m c,.slice B m' c',.agg #[.int .i64 tt.lv,.int .u32 (tt.c:Int)]] w fun e w'=>e =.returned (.bool (wC p.aU (xs.map (·.e)) (ys.map (·.e)) tt))∧ah w w':=by
 have cA:=ζ (fun W (hW:ah w W)=>yO (lk:=c) W (hp.keep hW) oC (hx.keep hW));have cB:=ζ (fun W (hW:ah w W)=>yO (lk:=c') W (hp.keep hW) oC (hy.keep hW));have hR:Hid (wC p.aU (xs.map (·.e)) (ys.map (·.e)) tt=decide (jv p.aU (xs.map (·.e)) tt=jv p.aU (ys.map (·.e)) tt)):=ζ rfl;generalize wC p.aU (xs.map (·.e)) (ys.map (·.e)) tt=R at *
 generalize jv p.aU (xs.map (·.e)) tt=CA at *
 generalize jv p.aU (ys.map (·.e)) tt=CB at *
 clear hp oC hx hy;unfold bQ.val at *
 obtain⟨⟨sl,sA,sm,sk⟩,⟨rl,rA,rm,rk⟩,⟨el,eA,em,ek⟩,⟨al,aA,am,ak⟩,o,oA,om,ok,i,iA,im,ik⟩:=p;simp only at cA cB ⊢;have bP:aG ((w.alloc (.cells #[.slice sA sm sk,.slice rA rm rk,.slice eA em ek,.slice aA am ak,.slice oA om ok,.slice iA im ik] 50)).alloc (.cells #[.int .i64 tt.lv,.int .u32 (tt.c:Int)] 25)) w.heap.size 50 #[.slice sA sm sk,.slice rA rm rk,.slice eA em ek,.slice aA am ak,.slice oA om ok,.slice iA im ik]:=(aG.new w _ _).alloc _;have bL:aG ((w.alloc (.cells #[.slice sA sm sk,.slice rA rm rk,.slice eA em ek,.slice aA am ak,.slice oA om ok,.slice iA im ik] 50)).alloc (.cells #[.int .i64 tt.lv,.int .u32 (tt.c:Int)] 25)) (w.heap.size+1) 25 #[.int .i64 tt.lv,.int .u32 (tt.c:Int)]:=aG.kV w _ _ _;have hG:ah w ((w.alloc (.cells #[.slice sA sm sk,.slice rA rm rk,.slice eA em ek,.slice aA am ak,.slice oA om ok,.slice iA im ik] 50)).alloc (.cells #[.int .i64 tt.lv,.int .u32 (tt.c:Int)] 25)):=((ah.refl w).alloc _).alloc _;go_enter Tryz.func33,Tryz.ntmps33
 go_wp2_with fail;generalize (w.alloc (.cells #[.slice sA sm sk,.slice rA rm rk,.slice eA em ek,.slice aA am ak,.slice oA om ok,.slice iA im ik] 50)).alloc (.cells #[.int .i64 tt.lv,.int .u32 (tt.c:Int)] 25)=w0 at *
 have p0:=bP.cell 0;have p1:=bP.cell 1;have p2:=bP.cell 2;have p3:=bP.cell 3;have p4:=bP.cell 4;have p5:=bP.cell 5;have q0:=bL.cell 0;have q1:=bL.cell 1;simp only[List.getElem?_toArray,List.getElem?_cons_zero,List.getElem?_cons_succ] at p0 p1 p2 p3 p4 p5 q0 q1;have pz:=bP.lt;have qz:=bL.lt;clear bP bL;have aP:=ζ (ah.refl w0);replace hG:=ζ hG;refine aF κ ?_;refine rK [0,1,2,4,5,6] 4 ?_;iterate 6 refine ay ?_
 refine aB ?_;refine aI [3] κ σ (fun wN hN hS=>(au.cons rfl (fun K' hK=> ?_) au.nil));replace aP:=ζ (aP.o.trans hN);try replace hXA:=ζ (hXA.o.keep hN)
 try replace hXB:=ζ (hXB.o.keep hN)
 clear hN;go_simp;refine (cA.out _ (hG.o.trans aP.o)).mono ?_;rintro e w5 ⟨A3,m3,c3,ys3,rfl,hXA,hmA,fK⟩;replace aP:=ζ (aP.o.trans fK);try replace hXB:=ζ (hXB.o.keep fK)
 replace hXA:=ζ hXA;replace hmA:=ζ hmA;refine hK.o _ _ ?_ (fun hS=> ?_)
 ·exact aP.o
 clear fK;clear hK hS;refine aI [7] κ σ (fun wN hN hS=>(au.cons rfl (fun K' hK=> ?_) au.nil));replace aP:=ζ (aP.o.trans hN);try replace hXA:=ζ (hXA.o.keep hN)
 try replace hXB:=ζ (hXB.o.keep hN)
 clear hN;go_simp;refine (cB.out _ (hG.o.trans aP.o)).mono ?_;rintro e w5 ⟨A7,m7,c7,ys7,rfl,hXB,hmB,fK⟩;replace aP:=ζ (aP.o.trans fK);try replace hXA:=ζ (hXA.o.keep fK)
 replace hXB:=ζ hXB;replace hmB:=ζ hmB;refine hK.o _ _ ?_ (fun hS=> ?_)
 ·exact aP.o
 clear fK;clear hK hS;refine aI [8] κ σ (fun wN hN hS=>(au.cons rfl (fun K' hK=> ?_) au.nil));replace aP:=ζ (aP.o.trans hN);try replace hXA:=ζ (hXA.o.keep hN)
 try replace hXB:=ζ (hXB.o.keep hN)
 clear hN;go_simp;refine (akY _ hXA.o hXB.o).mono ?_;rintro e w5 ⟨rfl,fK⟩;rw[hmA.o,hmB.o,←hR.o];replace aP:=ζ (aP.o.trans fK);refine hK.o _ _ ?_ (fun hS=> ?_)
 ·exact aP.o
 clear fK;clear hK hS;refine rK [9] 0 ?_;iterate 1 refine ay ?_
 refine aB ?_;refine aH κ (fun wN hN hS=> ?_);replace aP:=ζ (aP.o.trans hN);try replace hXA:=ζ (hXA.o.keep hN)
 try replace hXB:=ζ (hXB.o.keep hN)
 all_goals (
  go_wp2;go_ret;exact⟨rfl,hG.o.trans aP.o⟩)
theorem PU:∀{l:List zN},(l.map (·.n)).Nodup→∀{r:zN},r∈l→dY l r.n = some r.l
 | [],_,_,h=>(List.not_mem_nil h).elim
 | x ::l,hn,r,hr=>by
  rw[List.map_cons,List.nodup_cons] at hn;unfold dY;rw[List.find?_cons];rcases List.mem_cons.1 hr with rfl | hr
  ·simp
  ·have:x.n≠r.n:=fun e=>hn.1 (List.mem_map.2 ⟨r,hr,e.symm⟩)
   simp only[decide_eq_false this];exact PU hn.2 hr
theorem Tc {fb:cu→Bool} {p:fQ} (h:fE fb p = 0) {r:zN} (hr:r∈p.receivers):dY p.receivers r.n = some r.l:=by
 have hb:=(zH h).2;unfold Zr at hb;rw[Bool.or_eq_false_iff] at hb;have h1:lG p.receivers=true:=by
  cases hn:lG p.receivers with
  | true=>rfl
  | false=>
   have:(Am p).any (fun l=> !lG l)=true:=List.any_eq_true.2 ⟨p.receivers,by simp[Am],by rw[hn];rfl⟩;rw[hb.1] at this;cases this
 unfold lG at h1;simp only[Bool.and_eq_true,decide_eq_true_eq] at h1;exact PU h1.2 hr
theorem aiH {fb:cu→Bool} {ft:List bM→cu→Bool} {p:fQ} (h:fE fb p≠0) (rec:List UInt8) (st:Eng) (l:List iH) (q:n_) (now:Int):jO fb ft p rec st l q now=(st,[]):=by
 have hm:yZ fb p rec st now≠0:=by
  unfold yZ;split
  ·decide
  ·rw[if_neg (fun h'=>h h'.2)];decide
 unfold jO;rw[if_neg hm]
theorem Oz {fb:cu→Bool} {ft:List bM→cu→Bool} {p:fQ} (h:fE fb p≠0) (rec:List UInt8) (l:List zO):h_ fb ft p rec l = []:=by
 have hno:∀(l:List zO) (st:VSt),(l.foldl (eH fb ft p rec) st).out=st.out:=by
  intro l;induction l with
  | nil=>intro st;rfl
  | cons e r ih=>
   intro st;rw[List.foldl_cons,ih];unfold eH;split
   ·rfl
   ·split
    ·rfl
    ·split
     ·rw[aiH h];simp
     ·rfl
 unfold h_ jX;rw[hno];rfl
def PL (l:List zO):Bool:=l.all fun e=> !decide (e.k=0)||bg e.a
theorem akT {l:List zO} (h:PL l = true):∀e∈l,e.k=0→bg e.a = true:=fun e he hk=>by
 have:=List.all_eq_true.1 h e he;simpa[hk] using this
theorem aeY {fb:cu→Bool} {ft:List bM→cu→Bool} {p:fQ} {r:zN} (hr:r∈p.receivers) (abX:Nb p r.l = true) {l:List zO} (hl:PL l = true):h_ fb ft p r.n (jv p l r.l)=h_ fb ft p r.n l:=by
 by_cases uO:fE fb p = 0
 ·exact Gn (Tc uO hr) abX (akT hl)
 ·rw[Oz uO,Oz uO]
theorem ahc (p:fQ) (a:List zO) (tO:gy):wC p a (jv p a tO) tO=true:=by
 unfold wC;rw[GZ];simp
def gG (l:List zO):Nat:=(l.filter fun e=>decide (e.k=0)).length
theorem aan (l:List zO) (e:zO):gG (l ++[e])=gG l + if e.k=0 then 1 else 0:=by
 unfold gG;rw[List.filter_append,List.length_append];by_cases h:e.k=0 <;> simp[h]
theorem Gj (l:List zO) (e:zO):gG (e ::l)=gG l + if e.k=0 then 1 else 0:=by
 unfold gG;rw[List.filter_cons];by_cases h:e.k=0 <;> simp[h]
theorem asa {p:fQ} {tO:gy} {e c:zO} (hc:sD p tO e = some c):c.k=e.k:=by
 unfold sD at hc;split at hc
 ·rename_i h;obtain⟨c',-,rfl⟩:=Option.map_eq_some_iff.1 hc;exact h.symm
 ·split at hc
  ·rename_i h;split at hc
   ·injection hc with hc;subst hc;exact h.symm
   ·cases hc
  ·split at hc
   ·rename_i h;injection hc with hc;subst hc;exact h.symm
   ·cases hc
theorem TF (p:fQ) (tO:gy):∀l:List zO,gG (jv p l tO)≤gG l
 | []=>Nat.le_refl _
 | e ::l=>by
  have ih:=TF p tO l;rw[Gj];cases hc:sD p tO e with
  | none=>
   have:jv p (e ::l) tO=jv p l tO:=by unfold jv;rw[List.filterMap_cons,hc]
   rw[this];omega
  | some c=>
   have:jv p (e ::l) tO=c ::jv p l tO:=by unfold jv;rw[List.filterMap_cons,hc]
   rw[this,Gj,asa hc];omega
end Go.Proofs.YtbhikkgpcmkonaaGreatDoor
namespace Go.Proofs.YtbhikkgpcmkonaaGreatDoor
open Go.RowKit Go.Maps Go.WideMaps
theorem dO.aqA {S:Nat→Prop} {w w':World} {base ge b B:Nat} {rec:List UInt8} {now:Int} {gs:List GX} (h:dO w base ge b rec now B gs) (hO:nN S w w') (hS:∀j,S j→j≠b∧∀cur te fz,w.heap[j]? = some (.cells cur te fz)→te∉Y7):dO w' base ge b rec now B gs:=by
 have hn:∀{g:Nat} {te:TypeId} {cs:Array Value},aG w g te cs→te∈Y7→¬S g:=fun hB ht hs=>(hS _ hs).2 _ _ _ hB ht
 have hu:∀{v:Value} {c:U5} {g:Nat},wK w base g c v→wK w' base g c v:=fun hC=>
  ⟨hO.blk hC.blk (hn hC.blk δ),hC.told.off hO (fun m hm hs=>by
   obtain⟨cs,hB⟩:=(hC.told.nZ m hm).2;exact hn hB δ hs),hC.ok,hC.Xg,hC.len⟩
 refine⟨hO.blk h.blk (hn h.blk δ),?_,h.nd,h.gnd,h.cnd,fun x hx=>⟨hO.blk (h.at_ x hx).blk (hn (h.at_ x hx).blk δ),hu (h.at_ x hx).jH,(h.at_ x hx).Z9,(h.at_ x hx).cge,(h.at_ x hx).kl⟩,h.num,h.jH,h.ege,h.Zp⟩;obtain⟨n,h1,D,⟨es,clock,he,hr⟩,hD⟩:=h.map;have hl:b < w.heap.size:=(Array.getElem?_eq_some_iff.1 he).1;exact⟨n,h1,D,⟨es,clock,(hO.block b hl (fun hs=>(hS b hs).1 rfl)).trans he,hr⟩,hD⟩
theorem dH.off {S:Nat→Prop} {w w':World} {base:Nat} {x:fO} (h:dH w base x) (hO:nN S w w') (hS:∀j,S j→∀cur te fz,w.heap[j]? = some (.cells cur te fz)→te≠88∧te≠65):dH w' base x:=by
 have hf:∀{v:Value} {fs:List bM},Own w base 88 2 dZ v fs→Own w' base 88 2 dZ v fs:=fun ho=>ho.off hO (fun m hm hs=>by
  obtain⟨cs,hB⟩:=(ho.nZ m hm).2;exact (hS m hs _ _ _ hB).1 rfl)
 refine⟨hf h.fP,h.ts.off hO (fun m hm hs=>by
  obtain⟨cs,hB⟩:=(h.ts.nZ m hm).2;exact (hS m hs _ _ _ hB).2 rfl),fun y hy=>⟨hf (h.at_ y hy).1,(h.at_ y hy).2⟩,h.ble,h.Tm,h.tle⟩
theorem dH.P5 {w w':World} {base b0 ge b B:Nat} {rec:List UInt8} {now:Int} {gs:List GX} {x:fO} (h:dH w b0 x) (hE:dO w base ge b rec now B gs) (hO:nN (uF ge b gs) w w'):dH w' b0 x:=
 h.off hO (fun j hj cur te fz hc=>by
  have hne:∀t,t∉Y7→te≠t:=fun t ht e=>by
   subst e;rcases hj with rfl | rfl | ⟨y,hy,rfl | rfl⟩
   ·exact ht (by rw[hE.blk.lN hc];decide)
   ·obtain⟨n,-,hM⟩:=hE.map;exact hM.aY _ _ _ hc
   ·exact ht (by rw[(hE.at_ y hy).blk.lN hc];decide)
   ·exact ht (by rw[(hE.at_ y hy).jH.blk.lN hc];decide)
  exact⟨hne _ δ,hne _ δ⟩)
theorem UZ {fb:cu→Bool} {p:bQ} {w:World} (hp:p.At w) (uO:fE fb p.aU=0):(∀r∈p.i,r.bm≤1000000)∧p.im≤1000:=by
 obtain⟨h1,h2⟩:=zH uO;have hi:p.aU.jZ=p.i.map (·.i):=rfl;constructor
 ·intro r hr;unfold Zr at h2;rw[Bool.or_eq_false_iff,Bool.or_eq_false_iff] at h2;have h3:vP fb r.i = false:=by
   cases hb:vP fb r.i with
   | false=>rfl
   | true=>
    have:p.aU.jZ.any (vP fb)=true:=List.any_eq_true.2 ⟨r.i,by rw[hi];exact List.mem_map.2 ⟨r,hr,rfl⟩,hb⟩;rw[h2.2.2] at this;cases this
  unfold vP at h3;rw[Bool.or_eq_false_iff] at h3;have h4:r.i.fP.length≤8:=by
   have h5:byB r.i.fP=true:=by simpa using h3.1
   unfold byB at h5;simp only[Bool.and_eq_true,decide_eq_true_eq] at h5;exact h5.2
  have h5:=((hp.iAt r hr).fP).1;omega
 ·have h3:=(IG h1).2;have h4:p.aU.jZ.length=p.im:=by rw[hi,List.length_map,hp.i.1]
  omega
def Yf (k:Nat):Nat:=k*3456
theorem zh (k:Nat):Yf (k+1)=Yf k+3456:=by unfold Yf;rw[Nat.add_mul,Nat.one_mul]
theorem Ye {k:Nat} (h:k≤100):Yf k≤400000:=by unfold Yf;omega
theorem Zy (mk:ni→Int→Option N_) (p:fQ) (now:Int):∀(l:List ni) (s:alZ),(l.foldl (KX mk p now) s).out.length≤s.out.length+l.length
 | [],s=>by simp
 | g ::l,s=>by
  have h:=Zy mk p now l (KX mk p now s g);have h1:(KX mk p now s g).out.length≤s.out.length+1:=by
   unfold KX;simp only;split
   ·rw[List.length_append];have:∀o:Option N_,o.toList.length≤1:=fun o=>by cases o <;> simp
    have:=this (mk g (((uD s.gs (dw g.route g.fP)).getD (RU p g.route)).number+1));omega
   ·omega
  rw[List.foldl_cons,List.length_cons];omega
theorem aiG (fb:cu→Bool) (ft:List bM→cu→Bool) (p:fQ) (rec:List UInt8) (st:Eng) (l:List iH) (q:n_) (now:Int):(jO fb ft p rec st l q now).2.length≤288*l.length:=by
 unfold jO;split
 ·have h1:=Zy (fun x n=>jY fb p rec x (IE fb ft p rec l q now) n now) p now (mZ fb ft p rec (IE fb ft p rec l q now) now) ⟨st.gs.filter fun x=>uX p x.2,[],[]⟩;have h2:=(LK fb ft p rec (IE fb ft p rec l q now) now).2;have h3:(IE fb ft p rec l q now).length≤l.length:=Nat.le_trans (List.length_filterMap_le ..) Oy;unfold Dx;simp only[List.length_nil,Nat.zero_add] at h1 ⊢;omega
 ·simp
structure jR (w wr:World) (rec:List UInt8) (ge b gq bq gP k:Nat) (pc:Array Value) (n0:Int) (gs:List GX) (q:QX) (last:Nat) (tA:Option Addr) (tk:Nat) (ts:List dD) (oA:Option Addr) (ok:Nat) (ls:List fO) (st:VSt):Prop where
 Dj:dO wr w.heap.size ge b rec n0 (k*3456) gs
 Xh:jl wr w.heap.size gq bq q last
 ne:bq≠b
 Z9:w.heap.size≤gq
 Zp:w.heap.size≤bq
 aU:aG wr gP 50 pc
 told:Own wr w.heap.size 57 6 tH (.slice tA ts.length tk) ts
 tat:∀x∈ts,x.At w
 out:Own wr w.heap.size 64 6 kE (.slice oA ls.length ok) ls
 outs:∀x∈ls,dH wr w.heap.size x
 g:ah w wr
 ql:q.length≤k
 ll:last≤k
 ol:ls.length≤Yf k
 st:st=⟨⟨n0,dK gs⟩,ts.map (·.a),bJ q last,ls.map (·.xM)⟩
theorem jR.o {w wr:World} {rec:List UInt8} {ge b gq bq gP k:Nat} {pc:Array Value} {n0:Int} {gs:List GX} {q:QX} {last:Nat} {tA:Option Addr} {tk:Nat} {ts:List dD} {oA:Option Addr} {ok:Nat} {ls:List fO} {st:VSt} (h:jR w wr rec ge b gq bq gP k pc n0 gs q last tA tk ts oA ok ls st):Own wr w.heap.size 64 6 kE (.slice oA ls.length ok) ls:=h.out
section
variable {w wr w':World} {rec:List UInt8} {ge b gq bq gP k:Nat} {pc:Array Value} {n0:Int} {gs:List GX} {q:QX} {last:Nat} {tA:Option Addr} {tk:Nat} {ts:List dD} {oA:Option Addr} {ok:Nat} {ls:List fO} {st:VSt}
theorem jR.grows (h:jR w wr rec ge b gq bq gP k pc n0 gs q last tA tk ts oA ok ls st) (hg:ah wr w'):jR w w' rec ge b gq bq gP k pc n0 gs q last tA tk ts oA ok ls st:=
 ⟨h.Dj.grows hg,h.Xh.grows hg,h.ne,h.Z9,h.Zp,h.aU.grows hg,h.told.grows hg,h.tat,h.o.grows hg,fun x hx=>(h.outs x hx).grows hg,h.g.trans hg,h.ql,h.ll,h.ol,h.st⟩
theorem jR.more (h:jR w wr rec ge b gq bq gP k pc n0 gs q last tA tk ts oA ok ls st):jR w wr rec ge b gq bq gP (k+1) pc n0 gs q last tA tk ts oA ok ls st:=
 ⟨h.Dj.more ω,h.Xh,h.ne,h.Z9,h.Zp,h.aU,h.told,h.tat,h.o,h.outs,h.g,by have:=h.ql;omega,by have:=h.ll;omega,by have:=h.ol;have:=zh k;omega,h.st⟩
theorem jR.tell (h:jR w wr rec ge b gq bq gP k pc n0 gs q last tA tk ts oA ok ls st) {x:dD} {A':Option Addr} {k':Nat} (hx:x.At w) (hO:Own w' w.heap.size 57 6 tH (.slice A' (ts++[x]).length k') (ts++[x])) (hg:wr.grownBy w' (Value.slice tA ts.length tk).ownBlock) {fb:cu→Bool} {ft:List bM→cu→Bool} {p:fQ} {e:zO} (he:e.k=0) (ha:e.a = x.a) :
 jR w w' rec ge b gq bq gP (k+1) pc n0 gs q last A' k' (ts++[x]) oA ok ls (eH fb ft p rec st e):=by
 have NP:∀m,(Value.slice tA ts.length tk).ownBlock=some m→w.heap.size≤m∧∃cs,aG wr m 57 cs:=h.told.nZ;have hne:∀{g:Nat} {te:TypeId} {cs:Array Value},aG wr g te cs→te≠57→some g≠(Value.slice tA ts.length tk).ownBlock:=fun hB h1 e=>by
  obtain⟨cs,h2⟩:=(NP _ e.symm).2;exact hB.NJ h2 h1 rfl
 have hOk:∀{α:Type} {b0 n:Nat} {e:TypeId} {enc:α→List Value} {u:Value} {xs:List α},Own wr b0 e n enc u xs→e≠57→Own w' b0 e n enc u xs:=fun hO h1=>
  hO.kept' hg (fun j hj hv=>by obtain⟨cs,h2⟩:=(NP j hj).2;exact aZ hO h2 h1 hv)
 have hmap:∀m,(∀cur te fz,wr.heap[m]?≠some (.cells cur te fz))→some m≠(Value.slice tA ts.length tk).ownBlock:=fun m hm e=>by
  obtain⟨cs,h2⟩:=(NP _ e.symm).2;exact hm _ _ _ h2
 obtain⟨n,-,hM⟩:=h.Dj.map;refine⟨(h.Dj.other hg (hmap b hM.aY) (fun m hm cur te fz hc=>by obtain⟨cs,h2⟩:=(NP m hm).2;rw[h2.lN hc];decide)).more ω,h.Xh.row hg (hne h.Xh.blk δ) (hmap bq h.Xh.map.aY) (fun j hj y hy hv=>by obtain⟨cs,h2⟩:=(NP j hj).2;exact aZ (h.Xh.Ep y hy) h2 δ hv),h.ne,h.Z9,h.Zp,h.aU.aQ hg (hne h.aU δ),hO,?_,hOk h.o δ,fun y hy=>(h.outs y hy).row hg (fun m hm cur te fz hc=>by obtain⟨cs,h2⟩:=(NP m hm).2;rw[h2.lN hc];constructor <;> decide),h.g.aQ hg (fun m hm=>(NP m hm).1),by have:=h.ql;omega,by have:=h.ll;omega,by have:=h.ol;have:=zh k;omega,?_⟩
 ·intro y hy;rcases List.mem_append.1 hy with h1 | h1
  ·exact h.tat y h1
  ·rw[List.mem_singleton] at h1;subst h1;exact hx
 ·unfold eH;rw[if_pos he,h.st,ha];simp
end
section
variable {w wr w':World} {rec:List UInt8} {ge b gq bq gP k:Nat} {pc:Array Value} {n0:Int} {gs:List GX} {q:QX} {last:Nat} {tA:Option Addr} {tk:Nat} {ts:List dD} {oA:Option Addr} {ok:Nat} {ls:List fO} {st:VSt}
theorem jR.lay (h:jR w wr rec ge b gq bq gP k pc n0 gs q last tA tk ts oA ok ls st) {q':QX} {Lu:Nat} {s:Sil} {fb:cu→Bool} {ft:List bM→cu→Bool} {p:fQ} {e:zO} (hL:jl w' w.heap.size gq bq q' Lu) (hs:bJ q' Lu=J_ fb (bJ q last) s) (hq:q'.length≤q.length+1) (hl:Lu≤last+1) (hO:nN (fun j=>j = gq∨j = bq) wr w') (he:e.k=1) (hes:e.s = s) :
 jR w w' rec ge b gq bq gP (k+1) pc n0 gs q' Lu tA tk ts oA ok ls (eH fb ft p rec st e):=by
 have hS:∀j,(j = gq∨j = bq)→∀cur te fz,wr.heap[j]? = some (.cells cur te fz)→te=141:=fun j hj cur te fz hc=>by
  rcases hj with rfl | rfl
  ·exact h.Xh.blk.lN hc
  ·exact (h.Xh.map.aY _ _ _ hc).elim
 have hn:∀{g:Nat} {te:TypeId} {cs:Array Value},aG wr g te cs→te≠141→¬(g = gq∨g = bq):=fun hB ht hs=>ht (hS _ hs _ _ _ hB)
 have hOk:∀{α:Type} {b0 n:Nat} {e:TypeId} {enc:α→List Value} {u:Value} {xs:List α},Own wr b0 e n enc u xs→e≠141→Own w' b0 e n enc u xs:=fun ho h1=>
  ho.off hO (fun m hm=>by obtain⟨cs,hB⟩:=(ho.nZ m hm).2;exact hn hB h1)
 obtain⟨n,-,hM⟩:=h.Dj.map;refine⟨(h.Dj.aqA hO (fun j hj=>⟨?_,fun cur te fz hc=>by rw[hS j hj _ _ _ hc];decide⟩)).more ω,hL,h.ne,h.Z9,h.Zp,hO.blk h.aU (hn h.aU δ),hOk h.told δ,h.tat,hOk h.o δ,fun y hy=>(h.outs y hy).off hO (fun j hj cur te fz hc=>by rw[hS j hj _ _ _ hc];constructor <;> decide),hO.grown h.g (fun j hj=>by rcases hj with rfl | rfl;exact h.Z9;exact h.Zp),by have:=h.ql;omega,by have:=h.ll;omega,by have:=h.ol;have:=zh k;omega,?_⟩
 ·rcases hj with rfl | rfl
  ·intro e;exact hM.aY _ _ _ (by rw[←e];exact h.Xh.blk)
  ·exact h.ne
 ·unfold eH;rw[if_neg (by rw[he];decide),if_pos he,h.st,hes,hs]
theorem jR.none_ (h:jR w wr rec ge b gq bq gP k pc n0 gs q last tA tk ts oA ok ls st) (hg:ah wr w') {fb:cu→Bool} {ft:List bM→cu→Bool} {p:fQ} {e:zO} (h0:e.k≠0) (h1:e.k≠1) (h2:e.k≠2) :
 jR w w' rec ge b gq bq gP (k+1) pc n0 gs q last tA tk ts oA ok ls (eH fb ft p rec st e):=by
 have:eH fb ft p rec st e = st:=by unfold eH;rw[if_neg h0,if_neg h1,if_neg h2]
 rw[this];exact (h.grows hg).more
theorem jR.no (h:jR w wr rec ge b gq bq gP k pc n0 gs q last tA tk ts oA ok ls st) (hg:ah wr w') {fb:cu→Bool} {ft:List bM→cu→Bool} {p:fQ} {e:zO} (h2:e.k=2) (hm:yZ fb p rec st.Dj e.now≠0) :
 jR w w' rec ge b gq bq gP (k+1) pc n0 gs q last tA tk ts oA ok ls (eH fb ft p rec st e):=by
 have:eH fb ft p rec st e = st:=by
  unfold eH jO;rw[if_neg (by rw[h2];decide),if_neg (by rw[h2];decide),if_pos h2,if_neg hm];simp
 rw[this];exact (h.grows hg).more
theorem jR.step (h:jR w wr rec ge b gq bq gP k pc n0 gs q last tA tk ts oA ok ls st) {fb:cu→Bool} {ft:List bM→cu→Bool} {p:bQ} {now:Int} {e:Ending} (hm:yZ fb p.aU rec ⟨n0,dK gs⟩ now=0) (hP:DC fb ft p rec wr w.heap.size ge b (k*3456) n0 now gs ts (bJ q last) e w') (hts:ts.length≤12) :
 ∃(A2:Option Addr) (c2:Nat) (VI:List fO) (S_:List GX),e =.returned (.tuple #[.slice A2 VI.length c2,.int .i64 0])∧Own w' wr.heap.size 64 6 kE (.slice A2 VI.length c2) VI∧(∀x∈VI,dH w' w.heap.size x)∧VI.length≤3456∧VI.map (·.xM)=(jO fb ft p.aU rec ⟨n0,dK gs⟩ (ts.map (·.a)) (bJ q last) now).2∧
  jR w w' rec ge b gq bq gP (k+1) pc now S_ q last tA tk ts oA ok ls ⟨(jO fb ft p.aU rec ⟨n0,dK gs⟩ (ts.map (·.a)) (bJ q last) now).1,st.told,st.q,st.out⟩:=by
 obtain⟨v,VI,S_,rfl,hE,hN,hO,hLs,hl,af8,hg,hls⟩:=hP;obtain⟨A2,c2,rfl,-,-,-⟩:=hO.arr aj9;have uq:VI.length≤3456:=by
  have h1:=aiG fb ft p.aU rec ⟨n0,dK gs⟩ (ts.map (·.a)) (bJ q last) now;rw[←hls,List.length_map,List.length_map] at h1;omega
 have ajY:(jO fb ft p.aU rec ⟨n0,dK gs⟩ (ts.map (·.a)) (bJ q last) now).1.now=now:=by unfold jO;rw[if_pos hm]
 refine⟨A2,c2,VI,S_,rfl,hO,fun x hx=>(hLs x hx).bK h.g.size,uq,hls,hE.more ω,h.Xh.off h.Dj h.ne af8,h.ne,h.Z9,h.Zp,af8.blk h.aU (P6 h.Dj h.aU δ),h.told.P5 h.Dj δ af8,h.tat,h.o.P5 h.Dj δ af8,fun x hx=>(h.outs x hx).P5 h.Dj af8,af8.grown h.g (fun j hj=>adS h.Dj hj),by have:=h.ql;omega,by have:=h.ll;omega,by have:=h.ol;have:=zh k;omega,?_⟩;rw[h.st];generalize jO fb ft p.aU rec ⟨n0,dK gs⟩ (ts.map (·.a)) (bJ q last) now=R at *
 obtain⟨⟨rn,rg⟩,rl⟩:=R;simp only at ajY hg;subst ajY hg;rfl
theorem jR.push (h:jR w wr rec ge b gq bq gP (k+1) pc n0 gs q last tA tk ts oA ok ls st) {A':Option Addr} {k':Nat} {VI:List fO} {o0:List N_} (hO:Own w' w.heap.size 64 6 kE (.slice A' (ls++VI).length k') (ls++VI)) (hg:wr.grownBy w' (Value.slice oA ls.length ok).ownBlock) (h2:∀x∈VI,dH wr w.heap.size x) (hl:(ls++VI).length≤Yf (k+1)) (ho:VI.map (·.xM)=o0) :
 jR w w' rec ge b gq bq gP (k+1) pc n0 gs q last tA tk ts A' k' (ls++VI) ⟨st.Dj,st.told,st.q,st.out++o0⟩:=by
 have NP:∀m,(Value.slice oA ls.length ok).ownBlock=some m→w.heap.size≤m∧∃cs,aG wr m 64 cs:=h.o.nZ;have hne:∀{g:Nat} {te:TypeId} {cs:Array Value},aG wr g te cs→te≠64→some g≠(Value.slice oA ls.length ok).ownBlock:=fun hB h1 e=>by
  obtain⟨cs,h2⟩:=(NP _ e.symm).2;exact hB.NJ h2 h1 rfl
 have hOk:∀{α:Type} {b0 n:Nat} {e:TypeId} {enc:α→List Value} {u:Value} {xs:List α},Own wr b0 e n enc u xs→e≠64→Own w' b0 e n enc u xs:=fun hO h1=>
  hO.kept' hg (fun j hj hv=>by obtain⟨cs,h2⟩:=(NP j hj).2;exact aZ hO h2 h1 hv)
 have hmap:∀m,(∀cur te fz,wr.heap[m]?≠some (.cells cur te fz))→some m≠(Value.slice oA ls.length ok).ownBlock:=fun m hm e=>by
  obtain⟨cs,h2⟩:=(NP _ e.symm).2;exact hm _ _ _ h2
 have hrow:∀{x:fO},dH wr w.heap.size x→dH w' w.heap.size x:=fun hx=>hx.row hg (fun m hm cur te fz hc=>by obtain⟨cs,h2⟩:=(NP m hm).2;rw[h2.lN hc];constructor <;> decide)
 obtain⟨n,-,hM⟩:=h.Dj.map;refine⟨h.Dj.other hg (hmap b hM.aY) (fun m hm cur te fz hc=>by obtain⟨cs,h2⟩:=(NP m hm).2;rw[h2.lN hc];decide),h.Xh.row hg (hne h.Xh.blk δ) (hmap bq h.Xh.map.aY) (fun j hj y hy hv=>by obtain⟨cs,h2⟩:=(NP j hj).2;exact aZ (h.Xh.Ep y hy) h2 δ hv),h.ne,h.Z9,h.Zp,h.aU.aQ hg (hne h.aU δ),hOk h.told δ,h.tat,hO,?_,h.g.aQ hg (fun m hm=>(NP m hm).1),h.ql,h.ll,hl,?_⟩
 ·intro x hx;rcases List.mem_append.1 hx with h1 | h1
  ·exact hrow (h.outs x h1)
  ·exact hrow (h2 x h1)
 ·rw[h.st,←ho];simp
end
theorem Y6 {fb:cu→Bool} {ft:List bM→cu→Bool} {p:fQ} {rec:List UInt8} {st:VSt} {e:zO} {Dj:Eng} {tl:List iH} {qq:n_} {o:List N_} (h2:e.k=2) (hst:st=⟨Dj,tl,qq,o⟩) :
 eH fb ft p rec st e = ⟨(jO fb ft p rec Dj tl qq e.now).1,st.told,st.q,st.out++(jO fb ft p rec Dj tl qq e.now).2⟩:=by
 subst hst;unfold eH;rw[if_neg (by rw[h2];decide),if_neg (by rw[h2];decide),if_pos h2]
theorem XY {fb:cu→Bool} {ft:List bM→cu→Bool} {p:fQ} {rec:List UInt8} {xs:List g_} {k:Nat} {x:g_} (h:xs[k]? = some x):jX fb ft p rec ((xs.take (k+1)).map (·.e))=eH fb ft p rec (jX fb ft p rec ((xs.take k).map (·.e))) x.e:=by
 unfold jX;rw[List.take_add_one,h,List.map_append,List.foldl_append];rfl
theorem aam {xs:List g_} {k:Nat}:gG ((xs.take k).map (·.e))≤gG (xs.map (·.e)):=by
 unfold gG;exact (((List.take_sublist k xs).map (·.e)).filter _).length_le
theorem XI {fb:cu→Bool} {ft:List bM→cu→Bool} {p:fQ} {rec:List UInt8}:∀(l:List zO) (st:VSt),(l.foldl (eH fb ft p rec) st).told.length=st.told.length+gG l
 | [],_=>by simp[gG]
 | e ::l,st=>by
  rw[List.foldl_cons,XI l,Gj];unfold eH;by_cases h0:e.k=0
  ·rw[if_pos h0];simp[h0];omega
  ·rw[if_neg h0];split
   ·simp
   ·split <;> simp
end Go.Proofs.YtbhikkgpcmkonaaGreatDoor
