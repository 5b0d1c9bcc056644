/- Parts: EngN EngO ELiB ELiv ViwB ViwC ViwD ViwE ViwF ViwG -/
import Derived.Test.YtbhikkgpcmkonaaGreatDoorVa0
import Derived.Test.YtbhikkgpcmkonaaGreatDoorVa21
import Derived.Test.YtbhikkgpcmkonaaGreatDoorVa23
import Derived.Test.YtbhikkgpcmkonaaGreatDoorVa24
import Derived.Test.YtbhikkgpcmkonaaGreatDoorVa12
import Derived.Test.YtbhikkgpcmkonaaGreatDoorVa11
import Derived.Test.YtbhikkgpcmkonaaGreatDoorVa17
set_option maxRecDepth 100000
set_option maxHeartbeats 12800000
namespace Go.Proofs.YtbhikkgpcmkonaaGreatDoor
open Go.RowKit Go.Maps Go.WideMaps
structure awm (p:bU) (lA:Option Addr) (lm:Nat) (xs:List dA) (bl gq bq last:Nat) (q:QX) (W:World):Prop where
 aU:p.At W
 arr:bW W 6 tq lA lm xs
 at_:∀x∈xs,x.At W
 VY:jd W bl gq bq q last
 lib:oD W
 utf:oz W
def uo (ge b:Nat) (gs:List GX) (k:Nat):Prop:=k=ge∨k=b∨∃x∈gs,k=x.gb∨k=x.cb
theorem aeH (ge b:Nat) (gs:List GX) (w:World):vV (uo ge b gs) w gs:=fun x hx=>⟨.inl (.inr (.inr ⟨x,hx,.inl rfl⟩)),.inl (.inr (.inr ⟨x,hx,.inr rfl⟩))⟩
theorem nJ.more {S T:Nat→Prop} {a b c:World} (h:nJ S a b) (k:nJ T b c) (ht:∀j,j < a.heap.size→T j→S j):nJ S a c:=
 ⟨k.os.trans h.os,k.tape.trans h.tape,k.output.trans h.output,Nat.le_trans h.size k.size,fun j hj hn=>(k.block j (Nat.lt_of_lt_of_le hj h.size) (fun e=>hn (ht j hj e))).trans (h.block j hj hn)⟩
theorem Own.off {α:Type} {S:Nat→Prop} {w w':World} {b0 k:Nat} {e:TypeId} {enc:α→List Value} {v:Value} {xs:List α} (h:Own w b0 e k enc v xs) (hO:nJ S w w') (hn:∀m,v.ownBlock=some m→¬S m):Own w' b0 e k enc v xs:=by
 refine⟨h.1,?_⟩;rcases h.2 with h2 | ⟨g,cap,cur,hv,hb,hh,r⟩
 ·exact .inl h2
 ·exact .inr ⟨g,cap,cur,hv,hb,(hO.block g (Cj hh) (hn g (by rw[hv];rfl))).trans hh,r⟩
theorem alR {fb:cZ→Bool} {ft:List bK→cZ→Bool} {p:fU} {rec:List UInt8} {xs:List dA} {lm:Nat} (hl:xs.length=lm) {q:oC} {now:Int}:∀k∈yD fb ft p rec (xs.map (·.a)) q now,k<lm:=by
 intro k hk;unfold yD at hk;split at hk
 ·cases hk
 ·obtain⟨a,ha,-⟩:=SI (List.mem_filter.1 hk).1;have:=(List.getElem?_eq_some_iff.1 ha).1;rw[List.length_map] at this;omega
theorem NJ {fb:cZ→Bool} {ft:List bK→cZ→Bool} {p:fU} {rec:List UInt8} {l:List iD} {q:oC} {now:Int}:(yD fb ft p rec l q now).length≤l.length:=by
 unfold yD;split
 ·simp
 ·refine Nat.le_trans (List.length_filter_le ..) ?_;unfold xB;split
  ·refine Nat.le_trans (List.length_filter_le ..) ?_;unfold wU;refine Nat.le_trans (List.length_filter_le ..) ?_;rw[List.length_range];exact Nat.le_refl _
  ·simp
theorem aps {fb:cZ→Bool} {ft:List bK→cZ→Bool} {p:fU} {rec:List UInt8} {xs ys:List dA} {q:oC} {now:Int} (h:ys=(yD fb ft p rec (xs.map (·.a)) q now).filterMap fun k=>xs[k]?) :
 ys.map (·.a)=H7 fb ft p rec (xs.map (·.a)) q now∧(∀y∈ys,y∈xs)∧ys.length≤xs.length:=by
 subst h;refine⟨?_,fun y hy=> ?_,?_⟩
 ·unfold H7;rw[List.map_filterMap];congr 1
  funext k
  rw[List.getElem?_map]
 ·obtain⟨k,-,hk⟩:=List.mem_filterMap.1 hy;exact List.mem_of_getElem? hk
 ·refine Nat.le_trans (List.length_filterMap_le ..) ?_;have:=NJ (fb:=fb) (ft:=ft) (p:=p) (rec:=rec) (l:=xs.map (·.a)) (q:=q) (now:=now);rw[List.length_map] at this;exact this
theorem Iu {w w':World} {b0:Nat} {gs:List dO} (h:VT w b0 gs) (hg:ah w w'):VT w' b0 gs:=fun x hx=>⟨(h x hx).1.grows hg,(h x hx).2.grows hg⟩
theorem vV.same {S:Nat→Prop} {w0:World} {gs gs':List GX} (h:vV S w0 gs) (hb:gs'.map (·.gb)=gs.map (·.gb)) (hc:gs'.map (·.cb)=gs.map (·.cb)):vV S w0 gs':=fun x hx=>by
 have h1:x.gb∈gs.map (·.gb):=by rw[←hb];exact List.mem_map.2 ⟨x,hx,rfl⟩
 have h2:x.cb∈gs.map (·.cb):=by rw[←hc];exact List.mem_map.2 ⟨x,hx,rfl⟩
 obtain⟨y,hy,e1⟩:=List.mem_map.1 h1;obtain⟨z,hz,e2⟩:=List.mem_map.1 h2;have a1:=(h y hy).1;have a2:=(h z hz).2;rw[e1] at a1;rw[e2] at a2;exact⟨a1,a2⟩
theorem dF.tkq {w w':World} {base:Nat} {x:fG} {T:List TypeId} (h:dF w base x) (hT:tX T w w') (h1:88∉T) (h2:65∉T):dF w' base x:=
 ⟨tX.own h.fH hT h1,tX.own h.ts hT h2,fun y hy=>⟨tX.own (h.at_ y hy).1 hT h1,(h.at_ y hy).2⟩,h.ble,h.RD,h.tle⟩
theorem nJ.one {g:Nat} {a b:World} (h:nJ (fun j=>j = g) a b):a.grownBy b (some g):=⟨h.os,h.tape,h.output,h.size,fun i hi hne=>h.block i hi (fun e=>hne (by rw[e]))⟩
def C_ (fb:cZ→Bool) (ft:List bK→cZ→Bool) (p:bU) (rec:List UInt8) (w:World) (base ge b B:Nat) (n0 now:Int) (gs:List GX) (xs:List dA) (q:oC) (e:Ending) (w':World):Prop:=
 ∃(v:Value) (ls:List fG) (gs':List GX),e =.returned (.tuple #[v,.int .i64 0])∧dM w' base ge b rec now (B+3456) gs'∧vV (uo ge b gs) w gs'∧Own w' w.heap.size 64 6 jY v ls∧(∀x∈ls,dF w' w.heap.size x)∧ls.length≤B+3456∧nJ (uo ge b gs) w w'∧
  dJ gs'=(kE fb ft p.aU rec ⟨n0,dJ gs⟩ (xs.map (·.a)) q now).1.gs∧ls.map (·.yc)=(kE fb ft p.aU rec ⟨n0,dJ gs⟩ (xs.map (·.a)) q now).2
theorem aaL {fb:cZ→Bool} {p:fU} {rec:List UInt8} {st:Eng} {now:Int} (h:AP fb p rec st now=0):st.now<now∧0≤now∧now≤fC∧fP fb p = 0:=by
 unfold AP at h;split at h
 ·cases h
 ·split at h
  ·rename_i h1 h2;exact⟨ω,ω,ω,h2.2⟩
  ·cases h
theorem afO {fb:cZ→Bool} {ft:List bK→cZ→Bool} {p:bU} {base bl ge b B gq bq last:Nat} {rec:List UInt8} {n0 now:Int} {gs:List GX} {lA:Option Addr} {lm lk:Nat} {xs:List dA} {q:QX} (W:World)
 (Rl:∀W',nJ (uo ge b gs) W W'→awm p lA lm xs bl gq bq last q W') (oO:lQ fb p) (XZ:IQ ft p) (I4:Px ft p) (hib:∀r∈p.i,r.bm≤1000000) (XU:p.im≤1000) (mY:ads ft q) (V4:q.length≤60000)
 (hE:dM W base ge b rec n0 B gs) (hlb:base≤W.heap.size) (hB:B+3456≤1000000) (JG:lm≤12) (ae_:AP fb p.aU rec ⟨n0,dJ gs⟩ now=0) :
 Calls Tryz.prog 13 #[.pointer (some ⟨ge,0,none⟩),p.val,.slice lA lm lk,.pointer (some ⟨gq,0,none⟩),.int .i64 now] W (C_ fb ft p rec W base ge b B n0 now gs xs (bF q last)):=by
 have hE0:=Rl W (nJ.refl _ _);obtain⟨ajb,hn0,hn1,xE⟩:=aaL ae_;simp only at ajb;have hom:p.om≤12:=by
  have h1:=(H8 (CS xE).1).1;have h2:p.aU.routes.length=p.om:=by
   have:p.aU.routes=p.o.map (·.r):=rfl;rw[this,List.length_map,hE0.aU.o.1]
  omega
 have JB:=hE0.arr.1;have cM:=ζ (fun W' (hW:ah W W')=>acI (fb:=fb) (p:=p) (st:=⟨n0,dJ gs⟩) (now:=now) (b:=b) W' (hE0.aU.keep hW) oO (hE.blk.grows hW));rw[ae_] at cM;have cS:=ζ (fun W' (hW:nJ (uo ge b gs) W W') (I9:aF W' ge 118 #[.string ⟨rec.toArray⟩,.map (some b),.int .i64 now])=>ah2 (fb:=fb) (ft:=ft) (lk:=lk) (now:=now) W' (Rl W' hW).aU oO I4 hib XU (Rl W' hW).arr (Rl W' hW).at_ ω (Rl W' hW).VY V4 mY I9);have hP:C_ fb ft p rec W base ge b B n0 now gs xs (bF q last)=fun e w'=>∃(v:Value) (ls:List fG) (gs':List GX),e =.returned (.tuple #[v,.int .i64 0])∧dM w' base ge b rec now (B+3456) gs'∧vV (uo ge b gs) W gs'∧Own w' W.heap.size 64 6 jY v ls∧(∀x∈ls,dF w' W.heap.size x)∧ls.length≤B+3456∧nJ (uo ge b gs) W w'∧
  dJ gs'=(CZ fb ft p.aU rec ⟨n0,dJ gs⟩ (xs.map (·.a)) (bF q last) now).gs.map (Gg (CZ fb ft p.aU rec ⟨n0,dJ gs⟩ (xs.map (·.a)) (bF q last) now).asked now)∧ls.map (·.yc)=(CZ fb ft p.aU rec ⟨n0,dJ gs⟩ (xs.map (·.a)) (bF q last) now).out:=by
  funext e w'
  unfold C_ kE;rw[if_pos ae_]
 rw[hP];clear hP;have bP0:=aF.new (W.alloc (.cells #[.pointer (some ⟨ge,0,none⟩)] 51)) 50 #[.slice p.s.A p.s.m p.s.k,.slice p.r.A p.r.m p.r.k,.slice p.e.A p.e.m p.e.k,.slice p.a.A p.a.m p.a.k,.slice p.oA p.om p.ok,.slice p.iA p.im p.ik];simp only[World.size_alloc] at bP0;have b1:=((aF.new W 51 #[.pointer (some ⟨ge,0,none⟩)]).alloc (.cells #[.slice p.s.A p.s.m p.s.k,.slice p.r.A p.r.m p.r.k,.slice p.e.A p.e.m p.e.k,.slice p.a.A p.a.m p.a.k,.slice p.oA p.om p.ok,.slice p.iA p.im p.ik] 50)).alloc (.cells #[.int .i64 now] 3);have b2:=bP0.alloc (.cells #[.int .i64 now] 3);have b4:=aF.zK W (.cells #[.pointer (some ⟨ge,0,none⟩)] 51) (.cells #[.slice p.s.A p.s.m p.s.k,.slice p.r.A p.r.m p.r.k,.slice p.e.A p.e.m p.e.k,.slice p.a.A p.a.m p.a.k,.slice p.oA p.om p.ok,.slice p.iA p.im p.ik] 50) 3 #[.int .i64 now];have hg0:ah W (((W.alloc (.cells #[.pointer (some ⟨ge,0,none⟩)] 51)).alloc (.cells #[.slice p.s.A p.s.m p.s.k,.slice p.r.A p.r.m p.r.k,.slice p.e.A p.e.m p.e.k,.slice p.a.A p.a.m p.a.k,.slice p.oA p.om p.ok,.slice p.iA p.im p.ik] 50)).alloc (.cells #[.int .i64 now] 3)):=(((ah.refl W).alloc _).alloc _).alloc _;unfold bU.val at *
 go_enter Tryz.func13,Tryz.ntmps13
 go_wp2_with fail;refine (cM.out _ hg0).mono ?_;rintro e w1 ⟨rfl,hb1⟩;have hg1:=hg0.trans hb1;replace b1:=b1.grows hb1;replace b2:=b2.grows hb1;replace b4:=b4.grows hb1;have I8:=hE.grows hg1;have hEA:=I8.apn (Int.le_of_lt ajb);have ny:=aj w1 ⟨ge,2,none⟩ (.int .i64 now);have b1A:=b1.aO ny (fun e=>by injection e with e;exact b1.Ku I8.blk δ e);have b2A:=b2.aO ny (fun e=>by injection e with e;exact b2.Ku I8.blk δ e);have b4A:=b4.aO ny (fun e=>by injection e with e;exact b4.Ku I8.blk δ e);have hOA:nJ (uo ge b gs) W (w1.setCell ⟨ge,2,none⟩ (.int .i64 now)):=(hg1.off _).next ny (fun k hk=>by injection hk with hk;exact .inl (.inl hk.symm));have q1:=b1.c0;have q1l:=b1.lt;have q4:=b4.c0;have q4l:=b4.lt;have e2:=I8.blk.c2;have e2l:=I8.blk.lt;have e2f:=I8.blk.frozen 2;have q1A:(w1.setCell ⟨ge,2,none⟩ (.int .i64 now)).cell? ⟨W.heap.size,0,none⟩=some (.pointer (some ⟨ge,0,none⟩)):=b1A.cell 0;have e1A:(w1.setCell ⟨ge,2,none⟩ (.int .i64 now)).cell? ⟨ge,1,none⟩=some (.map (some b)):=hEA.blk.cell 1;have ami:(w1.setCell ⟨ge,2,none⟩ (.int .i64 now)).heap.size=w1.heap.size:=by simp
 obtain⟨n,hnB,D,hown,hD⟩:=hEA.map;have U8:=ζ hg1.size;replace Rl:=ζ Rl;replace b1:=ζ b1;replace b2:=ζ b2;replace b4:=ζ b4;replace b1A:=ζ b1A;replace b2A:=ζ b2A;replace b4A:=ζ b4A;replace hE:=ζ hE;replace hEA:=ζ hEA;replace hOA:=ζ hOA;replace ami:=ζ ami;clear hE0 I8 ny hg0 hg1 hb1 cM bP0;go_wp2_with (first
  | (at_range;refine wpList_range_own _ rfl _ 116 rfl 9 120 zV Tryz.underlying116 yF b n D rfl hown ?_;intro w3 hrg0 afd hs0)
  | go_in)
 go_frame
 rw[ami.o] at hrg0 hs0 ⊢;have iT:=hOA.o.next afd (fun k hk=>by cases hk);have I7:=hEA.o.other afd σ (fun m hm=>by cases hm);have agk:=b1A.out.aO afd σ;have agj:=b2A.out.aO afd σ;have akL:=b4A.out.aO afd σ;have aqu:∀cur te fz,w3.heap[b]?≠some (.cells cur te fz):=(show vX w3 b n (pO gs) from ⟨D,hrg0.owns,hD⟩).aX;have U9:=oI hrg0;have hnb:∀{g:Nat} {te:TypeId} {cs:Array Value},aF w3 g te cs→¬adF b w1.heap.size g:=fun hB h=>by
  rcases h with rfl | rfl
  ·exact aqu _ _ _ hB
  ·exact U9 _ _ _ hB
 have aup:=hnb agk;have auo:=hnb agj;have aun:=hnb akL;have hTw:∀j,j < W.heap.size→adF b w1.heap.size j→uo ge b gs j:=fun j hj hT=>by
  rcases hT with rfl | rfl
  ·exact .inr (.inl rfl)
  ·have:=U8.o;omega
 clear hnb;replace iT:=ζ iT;replace I7:=ζ I7;replace agk:=ζ agk;replace agj:=ζ agj;replace akL:=ζ akL;replace hTw:=ζ hTw;refine akb (p:=p) (gs:=gs) (now:=now) (ζ (fun W' yg=>(Rl.o W' (iT.o.more yg hTw.o)).aU)) agk agj I7 hrg0 (ζ hD) hnB aqu π ?_;intros
 rename_i wz hz;obtain⟨hzO,hzE⟩:=hz;have lq:=ζ (iT.o.more hzO.o hTw.o);have anQ:=ζ (hzO.o.blk agk.out aup);have VL:=ζ (hzO.o.blk agj.out auo);have anN:=ζ (hzO.o.blk akL.out aun);have amk:Hid (w3.heap.size≤wz.heap.size):=ζ hzO.o.size;have hsw:Hid (w1.heap.size≤w3.heap.size):=ζ ω;clear hrg0 afd hs0 iT I7 agk agj akL aqu U9 aup auo aun hTw hzO hD hown q1 q1l q4 q4l e2 e2l e2f q1A e1A hEA hOA b1A b2A b4A b1 b2 b4 ami;generalize Vf:gs.filter (fun x=>uP p.aU x.g)=MR at *
 have GY:=ζ ((ah.refl wz).alloc (.cells #[.slice none 0 0] 59));have b5:=ζ (aF.new wz 59 #[.slice none 0 0]);have awe:=ζ (anQ.out.grows GY.o);have awd:=ζ (VL.out.grows GY.o);have akK:=ζ (anN.out.grows GY.o);have Yc:=ζ (hzE.o.grows GY.o);have lZ:=ζ (lq.o.iw GY.o);have cSx:=ζ (cS.out _ lZ.o Yc.o.blk);have q1:=anQ.out.c0;have q1l:=anQ.out.lt;have q4:=anN.out.c0;have q4l:=anN.out.lt;have p0:=VL.out.c0;have p1:=VL.out.c1;have p2:=VL.out.c2;have p3:=VL.out.c3;have p4:=VL.out.c4;have p5:=VL.out.c5;have p2l:=VL.out.lt;clear cS anQ VL anN lq hzE;unfold bU.val at cSx;go_wp2_with fail;refine (cSx.out).mono ?_;rintro e w6 ⟨v6,rfl,hOX,Bj⟩;have ave:=alR (fb:=fb) (ft:=ft) (p:=p.aU) (rec:=rec) JB (q:=bF q last) (now:=now);have hXl:(yD fb ft p.aU rec (xs.map (·.a)) (bF q last) now).length≤1000000:=by
  have:=NJ (fb:=fb) (ft:=ft) (p:=p.aU) (rec:=rec) (l:=xs.map (·.a)) (q:=bF q last) (now:=now);rw[List.length_map] at this;omega
 have avp:=ζ (fun (ys:List dA) (h:ys=(yD fb ft p.aU rec (xs.map (·.a)) (bF q last) now).filterMap fun k=>xs[k]?)=>aps h);generalize hXe:yD fb ft p.aU rec (xs.map (·.a)) (bF q last) now=X at *
 obtain⟨A60,c60,rfl,-,-,-⟩:=hOX.arr Ig;have uj:=ζ (lZ.o.iw Bj);have arf:=ζ (awe.out.grows Bj);have ard:=ζ (awd.out.grows Bj);have arb:=ζ (akK.out.grows Bj);have YO:=ζ (b5.out.grows Bj);have hE6:=ζ (Yc.o.grows Bj);have hT6:Hid (∀j,j < W.heap.size→j = wz.heap.size→uo ge b gs j):=ζ (fun j hj e=>by have:=U8.o;have:=amk.o;have:=hsw.o;omega);have hA6:=ζ (fun W' (yg:nJ (fun j=>j = wz.heap.size) w6 W')=>(Rl.o W' (uj.o.more yg hT6.o)).arr);have hX6:=ζ (fun W' (yg:nJ (fun j=>j = wz.heap.size) w6 W')=>(hOX.off yg (fun m hm e=>aZ hOX YO.out δ (by rw[hm,e]))).uN Ig);have amj:Hid (wz.heap.size≤w6.heap.size):=ζ (Nat.le_trans GY.o.size Bj.size);clear cSx hOX Bj GY awe awd akK b5 Yc lZ q1 q1l q4 q4l p0 p1 p2 p3 p4 p5 p2l;go_wp2;refine aj_ (lk:=lk) (c60:=c60) hX6 hA6 (ζ ave) YO hXl π ?_;intros
 rename_i wk hk2;obtain⟨v5,ys,anK,hOy,JA,rG⟩:=hk2;obtain⟨yM,hyx,KG⟩:=avp.o ys JA.o;obtain⟨yA,yk,rfl,-,-,-⟩:=hOy.o.arr abf;have Ze:=ζ (uj.o.more rG.o hT6.o);have anP:=ζ (rG.o.blk arf.out (arf.out.Ku YO.out δ));have VK:=ζ (rG.o.blk ard.out (ard.out.Ku YO.out δ));have anM:=ζ (rG.o.blk arb.out (arb.out.Ku YO.out δ));have Ti:Hid (dM wk base ge b rec now B MR):=ζ (hE6.o.other rG.o.one (fun e=>by
  injection e with e
  obtain⟨n2,-,Zg⟩:=hE6.o.map;exact Zg.aX _ _ _ (by rw[e];exact YO.out)) (fun m hm cur te fz hc=>by injection hm with hm;subst hm;rw[YO.out.lG hc];decide))
 have apQ:Hid (W.heap.size≤wk.heap.size):=ζ Ze.o.size;have aiX:ys.length≤12:=ω;replace yM:=ζ yM;replace hyx:=ζ hyx;clear hX6 hA6 hT6 hXe ave hXl avp uj arf ard arb YO hE6 JA rG;have hmm:= @run_makeMap Tryz.prog;have jw:=ζ ((((ah.refl wk).alloc (.map #[] 0)).alloc (.cells #[.map (some wk.heap.size)] 122)).alloc (.cells #[.slice none 0 0] 53));have b3:=ζ ((aF.kW wk (.map #[] 0) 122 #[.map (some wk.heap.size)]).alloc (.cells #[.slice none 0 0] 53));have b6:=ζ (aF.zK wk (.map #[] 0) (.cells #[.map (some wk.heap.size)] 122) 53 #[.slice none 0 0]);have hAM:Hid (oP (((wk.alloc (.map #[] 0)).alloc (.cells #[.map (some wk.heap.size)] 122)).alloc (.cells #[.slice none 0 0] 53)) wk.heap.size 0 []):=ζ ⟨0,Nat.le_refl _,((iV.made wk Tryz.prog 9 4).alloc _).alloc _⟩;have q1:=anP.out.c0;have q1l:=anP.out.lt;have q4:=anM.out.c0;have q4l:=anM.out.lt;have q5:=anK.out.c0;have q5l:=anK.out.lt;have e0:=Ti.o.blk.c0;have e0l:=Ti.o.blk.lt;have p0:=VK.out.c0;have p1:=VK.out.c1;have p2:=VK.out.c2;have p3:=VK.out.c3;have p4:=VK.out.c4;have p5:=VK.out.c5;have p2l:=VK.out.lt;go_wp2;clear q1 q1l q4 q4l q5 q5l e0 e0l p0 p1 p2 p3 p4 p5 p2l hmm;have aza:Hid (wk.heap.size≠b):=ζ (fun e=>by
  obtain⟨n2,-,Zg⟩:=Ti.o.map;have:=Zg.lt;omega)
 have hO9:=ζ (Ze.o.iw jw.o);have anO:=ζ (anP.out.grows jw.o);have VJ:=ζ (VK.out.grows jw.o);have anL:=ζ (anM.out.grows jw.o);have anJ:=ζ (anK.out.grows jw.o);have Wh:=ζ (Ti.o.grows jw.o);have aqE:=ζ ((hOy.o.grows jw.o).bJ (show W.heap.size≤w6.heap.size by have:=amj.o;have:=U8.o;have:=hsw.o;have:=amk.o;omega));have ayG:=ζ jw.o.size;clear anP VK anM anK Ti hOy Ze jw;generalize ((wk.alloc (.map #[] 0)).alloc (.cells #[.map (some wk.heap.size)] 122)).alloc (.cells #[.slice none 0 0] 53)=w8 at *
 have cG:=ζ (fun W' (hW:ah w8 W')=>abH (fb:=fb) (ft:=ft) (rec:=rec) (lk:=yk) (now:=now) W' (Rl.o W' (hO9.o.iw hW)).lib (Rl.o W' (hO9.o.iw hW)).aU oO XZ ((aqE.o.grows hW).uN abf) (fun a ha=>(Rl.o W' (hO9.o.iw hW)).at_ a (hyx.o a ha)) ω);unfold bU.val at cG;have hSK:Hid (∀W',nJ (uo ge b gs) W W'→akY p ys W'):=ζ (fun W' yg=>⟨(Rl.o W' yg).aU,fun y hy=>(Rl.o W' yg).at_ y (hyx.o y hy),(Rl.o W' yg).lib,(Rl.o W' yg).utf⟩);have q1:=anO.out.c0;have q1l:=anO.out.lt;have q4:=anL.out.c0;have q4l:=anL.out.lt;have q5:=anJ.out.c0;have q5l:=anJ.out.lt;have e0:=Wh.o.blk.c0;have e0l:=Wh.o.blk.lt;have p0:=VJ.out.c0;have p1:=VJ.out.c1;have p2:=VJ.out.c2;have p3:=VJ.out.c3;have p4:=VJ.out.c4;have p5:=VJ.out.c5;have p2l:=VJ.out.lt;have aN:=ζ (ah.refl w8);have Ie:=ζ (And.intro I4 (And.intro hib (And.intro XU (And.intro mY V4))));replace oO:=ζ oO;replace XZ:=ζ XZ;clear I4 hib XU mY V4 Rl;refine aG κ ?_;refine rK [0,1,2,3,4,5,6,9] 2 ?_;iterate 8 refine aC ?_
 refine aB ?_;refine aH [7] κ σ (fun wN hN hS=>(au.cons rfl (fun K' hK=> ?_) au.nil));try replace aN:=ζ (aN.o.trans hN)
 try replace hOG:=ζ (Own.grows hOG.o hN)
 try replace hGs:=ζ (Iu hGs.o hN)
 clear hN;go_simp;refine (cG.out _ aN.o).mono ?_;rintro e w9 ⟨vG,G,rfl,hOG,hGs,hGm,hb9⟩;have hbG:=ζ (show W.heap.size≤wN.heap.size by have:=apQ.o;have:=aN.o.size;have:=ayG.o;omega);obtain⟨A83,c83,rfl,-,-,-⟩:=Own.arr hOG hkG;replace hOG:=ζ hOG;replace hGs:=ζ hGs;replace hGm:=ζ hGm;replace aN:=ζ (aN.o.trans hb9);refine hK.o _ _ ?_ (fun hS=> ?_)
 ·exact aN.o
 clear hb9;clear hK hS;refine rK [8] 0 ?_;iterate 1 refine aC ?_
 refine aB ?_;refine aJ κ (fun wN hN hS=> ?_);try replace aN:=ζ (aN.o.trans hN)
 try replace hOG:=ζ (Own.grows hOG.o hN)
 try replace hGs:=ζ (Iu hGs.o hN)
 clear q1 q1l q4 q4l q5 q5l e0 e0l p0 p1 p2 p3 p4 p5 p2l cG hS hN;have ayF:=ζ aN.o.size;have EL:Hid (nY (uo ge b gs) W wN p.cells.toArray ge wk.heap.size now yA ys.length yk ys W.heap.size (W.heap.size+1) (wk.heap.size+1) (W.heap.size+1+1) wz.heap.size (wk.heap.size+1+1) (.slice none 0 0) []):=
  ζ ⟨hO9.o.iw aN.o,anO.out.grows aN.o,VJ.out.grows aN.o,b3.out.grows aN.o,anL.out.grows aN.o,anJ.out.grows aN.o,b6.out.grows aN.o,(by have:=apQ.o;omega),aqE.o.grows aN.o,Own.iH _ _ _ _ _,fun x hx=>(List.not_mem_nil hx).elim⟩
 have hE9:=ζ (Wh.o.grows aN.o);have LY:Hid (vV (uo ge b gs) W MR):=ζ (fun x hx=>aeH ge b gs W x (by rw[←Vf] at hx;exact (List.mem_filter.1 hx).1));have avM:Hid (oP wN wk.heap.size B []):=ζ (by
  obtain⟨n2,h2,h3⟩:=hAM.o.grows aN.o;exact⟨n2,ω,h3⟩)
 obtain⟨hgd,EJ⟩:=KL fb ft p.aU rec (ys.map (·.a)) now;have EI:Hid (∀x∈G,Pv p.aU 12 x.g):=ζ (fun x hx=>(hgd x.g (by rw[←hGm.o];exact List.mem_map.2 ⟨x,hx,rfl⟩)).more (by rw[List.length_map];exact aiX));have hGl:G.length≤3456:=by
  rw[←hGm.o,List.length_map,List.length_map] at EJ;omega
 have hks:=ζ (And.intro hGm.o (And.intro yM.o KG));clear hgd EJ anO VJ anL anJ b3 b6 Wh hAM aqE hO9 aN hGm yM KG hyx;go_wp2;refine aj9 (fb:=fb) (p:=p) (S:=uo ge b gs) (w0:=W) (B:=B) (gs:=MR) (G:=G) hSK oO EL hE9 LY avM aza.o apQ.o (ζ (.inr (.inl rfl))) hlb (ζ ω) hn0 (ζ hn1) aiX hOG hGs hbG.o EI π ?_;intros
 rename_i wl hl3;obtain⟨gs3,v3,ls3,Rj,I7,aqG,Zf,auC,Ii,auB⟩:=hl3;have aa_:CZ fb ft p.aU rec ⟨n0,dJ gs⟩ (xs.map (·.a)) (bF q last) now=CY (fun x n=>jS fb p.aU rec x (ys.map (·.a)) n now) p.aU now (dJ MR) G G.length:=by
  obtain⟨h1,h2,-⟩:=hks.o;unfold CZ CY;rw[List.take_length,h1,←h2,←Vf,aft]
 replace aa_:=ζ aa_;clear hks Vf hSK oO XZ Ie EI hGs hOG hbG LY avM hE9 EL ayF JG JB aiX;generalize CY (fun x n=>jS fb p.aU rec x (ys.map (·.a)) n now) p.aU now (dJ MR) G G.length=T at *
 obtain⟨n4,aEt,D4,aod,hD4⟩:=I7.o.map;have q1:=Rj.o.b1.c0;have q1l:=Rj.o.b1.lt;have e1:=I7.o.blk.c1;have e1l:=I7.o.blk.lt;go_wp2_with (first
  | (at_range;refine wpList_range_own _ rfl _ 116 rfl 9 120 zV Tryz.underlying116 yF b n4 D4 rfl aod ?_;intro w5 JD Vg hs5)
  | go_in)
 go_frame
 have lZ:=ζ (Rj.o.off.next Vg (fun k hk=>by cases hk));have Yc:=ζ (I7.o.other Vg σ (fun m hm=>by cases hm));have awc:=ζ (Rj.o.b3.aO Vg σ);have akK:=ζ (Rj.o.b4.aO Vg σ);have av_:=ζ (Rj.o.b6.aO Vg σ);have hM5:=ζ (Zf.o.kept Vg σ);have aoA:=ζ (Rj.o.out.kept' Vg (fun j hj=>by cases hj));have ajE:=ζ (fun x hx=>(Rj.o.outs x hx).row Vg (fun m hm=>by cases hm));have ayE:=ζ Rj.o.off.size;clear q1 q1l e1 e1l Rj I7 Zf aod Vg hs5;refine aj8 (base:=base) (ge:=ge) (rec:=rec) (now:=now) (gs:=gs3) (asked:=T.asked) (ab:=wk.heap.size) (B:=B+G.length) awc akK hM5 Yc JD (ζ hD4) hn0 (ζ hn1) π ?_;intros
 rename_i wm hm4;obtain⟨gs4,hE4,hg4,auQ,au6,lq,Vm⟩:=hm4;have ara:=Vm.o.blk av_.out δ;have q6:=ara.c0;have q6l:=ara.lt;have aoo:Hid (nJ (uo ge b gs) W wm):=ζ (lZ.o.more lq.o (fun j hj hT=>by
  rcases hT with rfl | ⟨x,hx,rfl⟩
  ·have:=ayE.o;omega
  ·rcases (aqG.o x hx).2 with h1 | h1
   ·exact h1
   ·omega))
 have aQ:Hid (∃(v:Value) (ls:List fG) (gs':List GX),(.returned (.tuple #[v3,.int .i64 0]):Ending)=.returned (.tuple #[v,.int .i64 0])∧dM wm base ge b rec now (B+3456) gs'∧vV (uo ge b gs) W gs'∧Own wm W.heap.size 64 6 jY v ls∧(∀x∈ls,dF wm W.heap.size x)∧ls.length≤B+3456∧nJ (uo ge b gs) W wm∧dJ gs'=T.gs.map (Gg T.asked now)∧ls.map (·.yc)=T.out):=
  ζ ⟨v3,ls3,gs4,rfl,hE4.o.more ω,aqG.o.same auQ.o au6.o,tX.own aoA.o Vm.o δ,fun x hx=>(ajE.o x hx).tkq Vm.o δ δ,by have:=auC.o;omega,aoo.o,by rw[hg4.o,Ii.o],auB.o⟩
 clear hE4 hg4 auQ au6 lq Vm aoo lZ Yc awc akK av_ hM5 aoA ajE aqG auC Ii auB ara JD hD4;go_wp2;go_ret2;rw[aa_.o];exact aQ.o
section
variable {w w' w0:World} {base bl ge b B gq bq last:Nat} {rec:List UInt8} {now:Int} {gs:List GX} {q:QX}
theorem OX (hE:dM w base ge b rec now B gs) {g:Nat} {te:TypeId} {cs:Array Value} (hB:aF w g te cs) (ht:te∉Yq):¬uo ge b gs g:=fun h=>by
 have hT:∀{g':Nat} {t':TypeId} {cs':Array Value},aF w g' t' cs'→t'∈Yq→g≠g':=fun I9 ht'=>hB.Ku I9 (fun e=>ht (e ▸ ht'))
 rcases h with h | h | ⟨x,hx,h | h⟩
 ·exact hT hE.blk δ h
 ·obtain⟨n,-,hM⟩:=hE.map;exact hM.aX _ _ _ (by rw[←h];exact hB)
 ·exact hT (hE.at_ x hx).blk δ h
 ·exact hT (hE.at_ x hx).jC.blk δ h
theorem akd (hE:dM w base ge b rec now B gs) {g:Nat} (hg:g≠b) (hm:∀cur e fz,w.heap[g]?≠some (.cells cur e fz)):¬uo ge b gs g:=fun h=>by
 rcases h with h | h | ⟨x,hx,h | h⟩
 ·exact hm _ _ _ (by rw[h];exact hE.blk)
 ·exact hg h
 ·exact hm _ _ _ (by rw[h];exact (hE.at_ x hx).blk)
 ·exact hm _ _ _ (by rw[h];exact (hE.at_ x hx).jC.blk)
theorem ac8 (hE:dM w base ge b rec now B gs) {k:Nat} (h:uo ge b gs k):base≤k:=by
 rcases h with h | h | ⟨x,hx,h | h⟩
 ·rw[h];exact hE.ege
 ·rw[h];exact hE.YK
 ·rw[h];exact (hE.at_ x hx).Zl
 ·rw[h];exact (hE.at_ x hx).cge
theorem nJ.grown {S:Nat→Prop} (h:nJ S w w') (hg:ah w0 w) (hS:∀k,S k→w0.heap.size≤k):ah w0 w':=
 hg.iw ⟨h.os,h.tape,h.output,h.size,fun k hk=>h.block k (Nat.lt_of_lt_of_le hk hg.size) (fun e=>by have:=hS k e;omega)⟩
theorem jd.apw {S:Nat→Prop} (h:jd w bl gq bq q last) (hO:nJ S w w') (h1:¬S gq) (h2:¬S bq) (h3:∀x∈q,∀m,(Value.slice x.2.A x.2.m x.2.k).ownBlock=some m→¬S m):jd w' bl gq bq q last:=by
 refine⟨hO.blk h.blk h1,?_,h.asc,h.le,h.top,fun x hx=>(h.DX x hx).off hO (h3 x hx),h.ok⟩;have hl:=h.map.lt;obtain⟨es,clock,he,hr⟩:=h.map;exact⟨es,clock,(hO.block bq hl h2).trans he,hr⟩
theorem jd.off (h:jd w bl gq bq q last) (hE:dM w base ge b rec now B gs) (hne:bq≠b) (hO:nJ (uo ge b gs) w w'):jd w' bl gq bq q last:=
 h.apw hO (OX hE h.blk δ) (akd hE hne h.map.aX) (fun x hx m hm=>by
  obtain⟨cur,hc⟩:=bV (h.DX x hx) hm;intro hS;rcases hS with e | e | ⟨y,hy,e | e⟩
  ·exact aZ (h.DX x hx) hE.blk δ (by rw[hm,e])
  ·obtain⟨n,-,hM⟩:=hE.map;exact hM.aX _ _ _ (by rw[←e];exact hc)
  ·exact aZ (h.DX x hx) (hE.at_ y hy).blk δ (by rw[hm,e])
  ·exact aZ (h.DX x hx) (hE.at_ y hy).jC.blk δ (by rw[hm,e]))
theorem Own.OW {α:Type} {b0 k:Nat} {e:TypeId} {enc:α→List Value} {v:Value} {xs:List α} (h:Own w b0 e k enc v xs) (hE:dM w base ge b rec now B gs) (he:e∉Yq) (hO:nJ (uo ge b gs) w w'):Own w' b0 e k enc v xs:=
 h.off hO (fun m hm=>by
  obtain⟨cs,hB⟩:=(h.nV m hm).2;exact OX hE hB he)
end
theorem abN {fb:cZ→Bool} {ft:List bK→cZ→Bool} {p:bU} {base bl ge b B gq bq last:Nat} {rec:List UInt8} {n0 now:Int} {gs:List GX} {lA:Option Addr} {lm lk:Nat} {xs:List dA} {q:QX} (w0 W:World) (hW:ah w0 W) (hb:w0.heap.size≤base) (he:oD w0) (hu:oz w0) (hp:p.At w0) (hat:∀x∈xs,x.At w0)
 (hA:∀W',nJ (uo ge b gs) W W'→bW W' 6 tq lA lm xs) (hL:jd W bl gq bq q last) (hne:bq≠b) (oO:lQ fb p) (XZ:IQ ft p) (I4:Px ft p) (hib:∀r∈p.i,r.bm≤1000000) (XU:p.im≤1000) (mY:ads ft q) (V4:q.length≤60000)
 (hE:dM W base ge b rec n0 B gs) (hlb:base≤W.heap.size) (hB:B+3456≤1000000) (JG:lm≤12) (ae_:AP fb p.aU rec ⟨n0,dJ gs⟩ now=0) :
 Calls Tryz.prog 13 #[.pointer (some ⟨ge,0,none⟩),p.val,.slice lA lm lk,.pointer (some ⟨gq,0,none⟩),.int .i64 now] W (C_ fb ft p rec W base ge b B n0 now gs xs (bF q last)):=by
 refine afO (bl:=bl) (gq:=gq) (bq:=bq) (last:=last) W (fun W' yg=> ?_) oO XZ I4 hib XU mY V4 hE hlb hB JG ae_;have hg:=yg.grown hW (fun k hk=>Nat.le_trans hb (ac8 hE hk));exact⟨hp.keep hg,hA W' yg,fun x hx=>(hat x hx).keep hg,hL.off hE hne yg,he.grows hg,hu.grows hg⟩
theorem aj7 {fb:cZ→Bool} {p:bU} {rec:List UInt8} {st:Eng} {now:Int} {ge b:Nat} {lv sv:Value} (W:World) (hp:p.At W) (oO:lQ fb p) (hE:aF W ge 118 #[.string ⟨rec.toArray⟩,.map (some b),.int .i64 st.now]) (ae_:AP fb p.aU rec st now≠0) :
 Calls Tryz.prog 13 #[.pointer (some ⟨ge,0,none⟩),p.val,lv,sv,.int .i64 now] W fun e W'=>e =.returned (.tuple #[.slice none 0 0,.int .i64 (AP fb p.aU rec st now)])∧ah W W':=by
 have cM:=ζ (fun W' (hW:ah W W')=>acI (fb:=fb) (p:=p) (st:=st) (now:=now) (b:=b) W' (hp.keep hW) oO (hE.grows hW));have hg0:ah W (((W.alloc (.cells #[.pointer (some ⟨ge,0,none⟩)] 51)).alloc (.cells #[.slice p.s.A p.s.m p.s.k,.slice p.r.A p.r.m p.r.k,.slice p.e.A p.e.m p.e.k,.slice p.a.A p.a.m p.a.k,.slice p.oA p.om p.ok,.slice p.iA p.im p.ik] 50)).alloc (.cells #[.int .i64 now] 3)):=(((ah.refl W).alloc _).alloc _).alloc _;generalize AP fb p.aU rec st now=M at *
 replace hg0:=ζ hg0;unfold bU.val at *
 clear hp hE;go_enter Tryz.func13,Tryz.ntmps13
 go_wp2_with fail;refine (cM.out _ hg0.o).mono ?_;rintro e w1 ⟨rfl,hb1⟩;have hG:=ζ (hg0.o.trans hb1);clear hg0 hb1 cM;go_wp2;go_ret2;exact⟨rfl,hG.o⟩
theorem ajk (x:fG):(jY x).length=6:=rfl
theorem afT {w:World} {base ge b:Nat} {rec:List UInt8} (hB:aF w ge 118 #[.string ⟨rec.toArray⟩,.map (some b),.int .i64 (-1)]) (hM:vX w b 0 []) (h1:base≤ge) (h2:base≤b):dM w base ge b rec (-1) 0 []:=
 ⟨hB,⟨0,Nat.le_refl _,hM⟩,List.nodup_nil,List.nodup_nil,List.nodup_nil,fun _ hx=>(List.not_mem_nil hx).elim,fun _ hx=>(List.not_mem_nil hx).elim,fun _ hx=>(List.not_mem_nil hx).elim,h1,h2⟩
end Go.Proofs.YtbhikkgpcmkonaaGreatDoor
namespace Go.Proofs.YtbhikkgpcmkonaaGreatDoor
open Go.RowKit
structure uz (w0 W:World) (base:Nat) (y:gJ):Prop where
 o:Own W base 88 2 dW (.slice y.a.A y.a.m y.a.k) y.a.a.fs
 le:y.a.m≤1000
 KC:y.a.a.l.ok
 s:y.s.At w0
theorem uz.grows {w0 W W':World} {base:Nat} {y:gJ} (h:uz w0 W base y) (hg:ah W W'):uz w0 W' base y:=⟨h.o.grows hg,h.le,h.KC,h.s⟩
theorem uz.tkp {w0 W W':World} {base b:Nat} {y:gJ} (h:uz w0 W base y) (hg:IJ evT b W W'):uz w0 W' base y:=⟨IJ.own h.o hg δ,h.le,h.KC,h.s⟩
theorem uz.at_ {w0 W:World} {base:Nat} {y:gJ} (h:uz w0 W base y) (hg:ah w0 W):y.At W:=by
 refine⟨⟨?_,h.le,h.KC⟩,h.s.keep hg⟩;obtain⟨A,c,e,-,-,hX⟩:=h.o.arr IZ;injection e with e1 e2 e3
 rw[e1,e2];exact hX
theorem uz.bJ {w0 W:World} {base b':Nat} {y:gJ} (h:uz w0 W base y) (hb:b'≤base):uz w0 W b' y:=⟨h.o.bJ hb,h.le,h.KC,h.s⟩
theorem uz.step {w0 W W':World} {base b:Nat} {ys:List gJ} {y:gJ} {may:Bool} (h:∀z∈ys,uz w0 W base z) (hT:IJ evT b W W') (hy:may=true→uz w0 W base y):∀z∈(if may then ys++[y] else ys),uz w0 W' base z:=by
 intro z hz;cases may with
 | false=>exact (h z hz).tkp hT
 | true=>
  rcases List.mem_append.1 hz with h1 | h1
  ·exact (h z h1).tkp hT
  ·rw[List.mem_singleton] at h1;subst h1;exact (hy rfl).tkp hT
def QN:dA:=⟨zI,none,0,0⟩
def LQ:xZ:=⟨u_,none,0,0⟩
theorem MO:(⟨0,0⟩:fZ).ok:=by unfold fZ.ok;simp only;decide
theorem zJ (w:World):LQ.At w:=⟨⟨rfl,fun h0=>absurd h0 δ⟩,δ,MO⟩
theorem afY {w0 W:World} {base:Nat} {a:iD} {A:Option Addr} {ck:Nat} (h:Own W base 88 2 dW (.slice A a.fs.length ck) a.fs) (hl:a.fs.length≤1000) (hb:a.l.ok):uz w0 W base ⟨0,⟨a,A,a.fs.length,ck⟩,LQ,0⟩:=⟨h,hl,hb,zJ w0⟩
theorem afZ {w0 W:World} {base:Nat} {s:xZ} (h:s.At w0):uz w0 W base ⟨1,QN,s,0⟩:=⟨Own.iH _ _ _ _ _,Nat.zero_le _,MO,h⟩
theorem afX {w0 W:World} {base:Nat} (now:Int):uz w0 W base ⟨2,QN,LQ,now⟩:=⟨Own.iH _ _ _ _ _,Nat.zero_le _,MO,zJ w0⟩
theorem af0 {p:fU} {tt:fZ} {xs:List gJ} {k:Nat} {x:gJ} (h:xs[k]? = some x):kD p ((xs.take (k+1)).map (·.e)) tt=kD p ((xs.take k).map (·.e)) tt++(DZ p tt x.e).toList:=by
 rw[List.take_add_one,h,List.map_append];exact af2 p tt _ _
theorem zU {w wr w6:World} {b:Nat} {v:Value} {ys:List gJ} {y:gJ} {may:Bool} {Fk F':List ES} {gp gl:Nat} {PC LC:Array Value} (hb:w.heap.size≤b) (hBo:Hid (aF wr b 98 #[v])) (Oz:Hid (Own wr b 166 13 qV v ys)) (JA:Hid (ys.map (·.e)=Fk)) (hCy:Hid (∀y∈ys,uz w wr b y)) (hB:Hid (aF wr gp 50 PC)) (hL:Hid (aF wr gl 25 LC)) (hG:Hid (ah w wr)) (FZ:Hid (ah wr w6)) (KG:ys.length≤1000)
 (hy:may=true→uz w w6 b y) (hF:F'=Fk++(if may then [y.e] else [])) :
 Calls Tryz.prog 71 #[Ul y,.bool may,.pointer (some ⟨b,0,none⟩)] w6 fun e w'=>e =.returned (.tuple #[])∧∃(v':Value) (ys':List gJ),Hid (aF w' b 98 #[v'])∧Hid (Own w' b 166 13 qV v' ys')∧Hid (ys'.map (·.e)=F')∧Hid (∀y∈ys',uz w w' b y)∧Hid (aF w' gp 50 PC)∧Hid (aF w' gl 25 LC)∧Hid (ah w w'):=by
 refine (aiG (y:=y) (may:=may) w6 (hBo.o.grows FZ.o) (Oz.o.grows FZ.o) (Nat.le_refl b) ω).mono ?_;rintro e w' ⟨rfl,v',h1,h2,h3⟩;have EN:=hG.o.trans FZ.o;refine⟨rfl,v',_,ζ h1,ζ h2,ζ ?_,ζ (uz.step (fun z hz=>(hCy.o z hz).grows FZ.o) h3 hy),ζ (h3.blk (hB.o.grows FZ.o) δ),ζ (h3.blk (hL.o.grows FZ.o) δ),ζ (IJ.out EN h3 hb)⟩;rw[hF,←JA.o];cases may <;> simp
theorem anm {p:fU} {a c:iD} {tt:fZ} (h:iJ p a tt=some c):c.fs.length≤a.fs.length∧c.l = a.l:=by
 obtain⟨rfl,-,-⟩:=yU h;exact⟨mQ p a.fs a.l tt,rfl⟩
theorem ahb {p:bU} {tt:fZ} {lA:Option Addr} {lm lk:Nat} {xs:List gJ} (w:World) (hp:p.At w) (mP:tt.ok) (hA:bW w 13 qV lA lm xs) (hat:∀x∈xs,x.At w) (JG:lm≤1000) :
 Calls Tryz.prog 36 #[p.val,.slice lA lm lk,.agg #[.int .i64 tt.lv,.int .u32 (tt.c:Int)]] w fun e w'=>∃v ys,e =.returned v∧Own w' w.heap.size 166 13 qV v ys∧ys.map (·.e)=kD p.aU (xs.map (·.e)) tt∧(∀y∈ys,uz w w' w.heap.size y)∧ah w w':=by
 have lJ:=hA.1;have cC:=ζ (fun (x:gJ) (hx:x∈xs) W (hW:ah w W)=>Dq W (hp.keep hW) ((hat x hx).a.keep hW) mP);have cF:=ζ (fun (x:gJ) (hx:x∈xs) W=>vH x.s.s.l tt W (hat x hx).s.KC mP);have aQ:kD p.aU (xs.map (·.e)) tt=kD p.aU ((xs.take lm).map (·.e)) tt:=by rw[List.take_of_length_le ω]
 rw[aQ];have hst:=ζ (fun k (x:gJ) (hr:xs[k]? = some x)=>af0 (p:=p.aU) (tt:=tt) hr);have hlen:=ζ (fun k=>show (kD p.aU ((xs.take k).map (·.e)) tt).length≤k by
  unfold kD;refine Nat.le_trans (List.length_filterMap_le ..) ?_;rw[List.length_map,List.length_take];omega)
 have L8:kD p.aU ((xs.take 0).map (·.e)) tt=[]:=rfl;have Ov:=ζ (fun (x:gJ) (hx:x∈xs) c (hc:iJ p.aU x.a.a tt=some c)=>show c.fs.length≤1000∧c.l.ok by
  obtain⟨h1,h2⟩:=anm hc;have h3:=(hat x hx).a;have h4:=h3.le;have h5:=h3.arr.1;exact⟨ω,by rw[h2];exact h3.KC⟩)
 have QZ:=ζ (fun (x:gJ) (hx:x∈xs)=>(hat x hx).s);unfold DZ at hst;generalize hF:(fun k=>kD p.aU ((xs.take k).map (·.e)) tt)=F at *
 have hFk:∀k,kD p.aU ((xs.take k).map (·.e)) tt=F k:=fun k=>by rw[←hF]
 simp only[hFk] at *
 clear hF hFk aQ hp hat lJ;replace hA:=ζ hA;generalize hpp:p.aU=aU at *
 unfold bU.val at *
 clear hpp;obtain⟨⟨sl,sA,sm,sk⟩,⟨rl,rA,rm,rk⟩,⟨el,eA,em,ek⟩,⟨al,aA,am,ak⟩,o,oA,om,ok,i,iA,im,ik⟩:=p;simp only at cC ⊢;go_enter Tryz.func36,Tryz.ntmps36
 go_wp2;go_loopw [10,11,12,16] (fun _ _ _ i wr=>∃(k:Nat) (v:Value) (ys:List gJ),k≤lm∧i =.int .i64 k∧Hid (aF wr (w.heap.size+2) 98 #[v])∧Hid (Own wr (w.heap.size+2) 166 13 qV v ys)∧Hid (ys.map (·.e)=F k)∧Hid (∀y∈ys,uz w wr (w.heap.size+2) y)∧Hid (aF wr w.heap.size 50 #[.slice sA sm sk,.slice rA rm rk,.slice eA em ek,.slice aA am ak,.slice oA om ok,.slice iA im ik])∧Hid (aF wr (w.heap.size+1) 25 #[.int .i64 tt.lv,.int .u32 (tt.c:Int)])∧Hid (ah w wr)) (fun _ _ _ i _=>lm-(intOf i).toNat)
 case atStart=>exact⟨0,_,[],ω,rfl,(aF.zK w _ _ _ _),Own.iH _ _ _ _ _,ζ (by rw[L8];rfl),ζ σ,((aF.new w _ _).alloc _).alloc _,(aF.kW w _ _ _).alloc _,(((ah.refl w).alloc _).alloc _).alloc _⟩
 case round=>
  obtain⟨k,v,ys,hk,rfl,hBo,Oz,JA,hCy,hB,hL,hG⟩:=hrel;by_cases wB:k<lm
  ·obtain⟨bb,off,x,rfl,GV,hx,hcell⟩:=(hA.o.keep hG.o).at_ wB;have c0:wr.cell? ⟨bb,off+k*13,none⟩=some (.int .i64 x.k):=hcell 0 _ rfl;have c1:wr.cell? ⟨bb,off+k*13+1,none⟩=some (.string ⟨x.a.a.src.toArray⟩):=hcell 1 _ rfl;have c2:wr.cell? ⟨bb,off+k*13+2,none⟩=some (.slice x.a.A x.a.m x.a.k):=hcell 2 _ rfl;have c3:wr.cell? ⟨bb,off+k*13+3,none⟩=some (.int .i64 x.a.a.l.lv):=hcell 3 _ rfl;have c4:wr.cell? ⟨bb,off+k*13+4,none⟩=some (.int .u32 (x.a.a.l.c:Int)):=hcell 4 _ rfl;have c5:wr.cell? ⟨bb,off+k*13+5,none⟩=some (.int .i64 x.a.a.f):=hcell 5 _ rfl;have c6:wr.cell? ⟨bb,off+k*13+6,none⟩=some (.int .i64 x.a.a.t):=hcell 6 _ rfl;have c7:wr.cell? ⟨bb,off+k*13+7,none⟩=some (.slice x.s.A x.s.m x.s.k):=hcell 7 _ rfl;have c8:wr.cell? ⟨bb,off+k*13+8,none⟩=some (.int .i64 x.s.s.f):=hcell 8 _ rfl;have c9:wr.cell? ⟨bb,off+k*13+9,none⟩=some (.int .i64 x.s.s.t):=hcell 9 _ rfl;have c10:wr.cell? ⟨bb,off+k*13+10,none⟩=some (.int .i64 x.s.s.l.lv):=hcell 10 _ rfl;have c11:wr.cell? ⟨bb,off+k*13+11,none⟩=some (.int .u32 (x.s.s.l.c:Int)):=hcell 11 _ rfl;have c12:wr.cell? ⟨bb,off+k*13+12,none⟩=some (.int .i64 x.now):=hcell 12 _ rfl;have kY:(k:Int)<(lm:Int):=ω;have wu:=List.mem_of_getElem? hx;have hs1:=ζ (hst.o k x hx);have TU:=ζ (cC.out x wu);have J3:=ζ (cF.out x wu);have hcx:=ζ (Ov.o x wu);have apS:=ζ (QZ.o x wu);have KG:ys.length≤1000:=by
    have h1:=congrArg List.length JA.o;have h2:=hlen.o k;rw[List.length_map] at h1;omega
   have Tj:=hB.o;have hLc:=hL.o;have p0:=Tj.cell 0;have p1:=Tj.cell 1;have p2:=Tj.cell 2;have p3:=Tj.cell 3;have p4:=Tj.cell 4;have p5:=Tj.cell 5;have q0:=hLc.cell 0;have q1:=hLc.cell 1;simp only[List.getElem?_toArray,List.getElem?_cons_zero,List.getElem?_cons_succ] at p0 p1 p2 p3 p4 p5 q0 q1;have pz:=Tj.lt;have qz:=hLc.lt;have hsz:=hG.o.size;unfold je at TU;clear hcell hx Tj hLc cC cF Ov QZ hst wu;by_cases h0:x.k=0
   ·have h0z:(x.k==0)=true:=by simp[h0]
    simp only[gJ.e,h0,if_true] at hs1;rw[h0] at c0;clear h0;generalize iJ aU x.a.a tt=CU at *
    go_wp2_with fail;refine (TU.out _ (hG.o.alloc _)).mono ?_;rintro e w5 ⟨v5,rfl,Y4,fM⟩;have GY:=ζ (((ah.refl wr).alloc (.cells #[.int .i64 0,.string ⟨x.a.a.src.toArray⟩,.slice x.a.A x.a.m x.a.k,.int .i64 x.a.a.l.lv,.int .u32 (x.a.a.l.c:Int),.int .i64 x.a.a.f,.int .i64 x.a.a.t,.slice x.s.A x.s.m x.s.k,.int .i64 x.s.s.f,.int .i64 x.s.s.t,.int .i64 x.s.s.l.lv,.int .u32 (x.s.s.l.c:Int),.int .i64 x.now] 166)).trans fM);clear fM c0 c1 c2 c3 c4 c5 c6 c7 c8 c9 c10 c11 c12 p0 p1 p2 p3 p4 p5 q0 q1;cases CU with
    | none=>
     obtain rfl:v5=jI:=Y4;have FZ:=ζ (GY.o.alloc (.cells Bq 57));unfold jI;simp only[Option.isSome_none];go_wp2_with fail;refine (zU (y:=⟨0,QN,LQ,0⟩) (F':=F (k+1)) ω hBo Oz JA hCy hB hL hG FZ KG σ (by rw[hs1.o];simp)).mono ?_;rintro e w7 ⟨rfl,v7,ys7,abC,abu,aaZ,abB,tN,hL7,V_⟩;clear hBo Oz JA hCy hB hL hG GY FZ hs1;go_wp2;go_roundw
     case rel=>exact⟨k+1,v7,ys7,ω,ν,abC,abu,aaZ,abB,tN,hL7,V_⟩
     case measure=>exact ψ
    | some c=>
     obtain⟨cA,ck,hce,kP⟩:=Y4;obtain⟨qB,hcb⟩:=hcx.o c rfl;unfold je at hce;subst hce;have FZ:=ζ (GY.o.alloc (.cells #[.string ⟨c.src.toArray⟩,.slice cA c.fs.length ck,.int .i64 c.l.lv,.int .u32 (c.l.c:Int),.int .i64 c.f,.int .i64 c.t] 57));have uj:=kP.alloc (.cells #[.string ⟨c.src.toArray⟩,.slice cA c.fs.length ck,.int .i64 c.l.lv,.int .u32 (c.l.c:Int),.int .i64 c.f,.int .i64 c.t] 57);simp only[Option.isSome_some];go_wp2_with fail;refine (zU (y:=⟨0,⟨c,cA,c.fs.length,ck⟩,LQ,0⟩) (F':=F (k+1)) ω hBo Oz JA hCy hB hL hG FZ KG (fun _=>afY (uj.bJ (by simp;omega)) qB hcb) (by rw[hs1.o];simp[gJ.e,LQ])).mono ?_;rintro e w7 ⟨rfl,v7,ys7,abC,abu,aaZ,abB,tN,hL7,V_⟩;clear hBo Oz JA hCy hB hL hG GY FZ hs1 uj kP;go_wp2;go_roundw
     case rel=>exact⟨k+1,v7,ys7,ω,ν,abC,abu,aaZ,abB,tN,hL7,V_⟩
     case measure=>exact ψ
   ·have h0z:(x.k==0)=false:=by simp[h0]
    by_cases h1:x.k=1
    ·have h1z:(x.k==1)=true:=by simp[h1]
     have GY:=ζ ((ah.refl wr).alloc (.cells #[.int .i64 1,.string ⟨x.a.a.src.toArray⟩,.slice x.a.A x.a.m x.a.k,.int .i64 x.a.a.l.lv,.int .u32 (x.a.a.l.c:Int),.int .i64 x.a.a.f,.int .i64 x.a.a.t,.slice x.s.A x.s.m x.s.k,.int .i64 x.s.s.f,.int .i64 x.s.s.t,.int .i64 x.s.s.l.lv,.int .u32 (x.s.s.l.c:Int),.int .i64 x.now] 166));simp only[gJ.e,h1,if_true] at hs1;rw[h1] at c0;clear h1 h0 TU hcx;go_wp2_with fail;generalize gy x.s.s.l tt=FL at *
     have ayJ:=apS.o;refine aG κ ?_;refine rK (.range 9) 1 ?_;iterate 8 refine aC ?_
     refine aY (.bool FL) rfl χ (fun wq eG=> ?_) ?_
     ·obtain⟨nR,mY⟩:=bQ eG;go_simp;exact Calls.mono (J3.out wq) (fun e w'' h=>h)
     go_simp;refine aB ?_;refine d_ (i:=9) rfl κ κ (fun wN hN hS K' hK=> ?_);clear hS;have FZ:=ζ (GY.o.trans hN);go_simp;refine (zU (y:=⟨1,QN,x.s,0⟩) (F':=F (k+1)) (may:=FL) ω hBo Oz JA hCy hB hL hG FZ KG (fun _=>afZ ayJ) (by rw[hs1.o];cases FL <;> simp[gJ.e,QN])).mono ?_;rintro e w7 ⟨rfl,v7,ys7,abC,abu,aaZ,abB,tN,hL7,V_⟩;refine hK.o _ _ ?_;clear hK;clear hBo Oz JA hCy hB hL hG hs1;go_wp2;go_roundw
     case rel=>exact⟨k+1,v7,ys7,ω,ν,abC,abu,aaZ,abB,tN,hL7,V_⟩
     case measure=>exact ψ
    ·have h1z:(x.k==1)=false:=by simp[h1]
     by_cases h2:x.k=2
     ·have h2z:(x.k==2)=true:=by simp[h2]
      have FZ:=ζ ((ah.refl wr).alloc (.cells #[.int .i64 2,.string ⟨x.a.a.src.toArray⟩,.slice x.a.A x.a.m x.a.k,.int .i64 x.a.a.l.lv,.int .u32 (x.a.a.l.c:Int),.int .i64 x.a.a.f,.int .i64 x.a.a.t,.slice x.s.A x.s.m x.s.k,.int .i64 x.s.s.f,.int .i64 x.s.s.t,.int .i64 x.s.s.l.lv,.int .u32 (x.s.s.l.c:Int),.int .i64 x.now] 166));simp only[gJ.e,h2,if_true] at hs1;rw[h2] at c0;clear h1 h0 h2 TU hcx J3 apS;go_wp2_with fail;refine (zU (y:=⟨2,QN,LQ,x.now⟩) (F':=F (k+1)) (may:=true) ω hBo Oz JA hCy hB hL hG FZ KG (fun _=>afX _) (by rw[hs1.o];simp[gJ.e,LQ,QN])).mono ?_;rintro e w7 ⟨rfl,v7,ys7,abC,abu,aaZ,abB,tN,hL7,V_⟩;clear hBo Oz JA hCy hB hL hG FZ hs1;go_wp2;go_roundw
      case rel=>exact⟨k+1,v7,ys7,ω,ν,abC,abu,aaZ,abB,tN,hL7,V_⟩
      case measure=>exact ψ
     ·have h2z:(x.k==2)=false:=by simp[h2]
      have FZ:=ζ ((ah.refl wr).alloc (.cells #[.int .i64 x.k,.string ⟨x.a.a.src.toArray⟩,.slice x.a.A x.a.m x.a.k,.int .i64 x.a.a.l.lv,.int .u32 (x.a.a.l.c:Int),.int .i64 x.a.a.f,.int .i64 x.a.a.t,.slice x.s.A x.s.m x.s.k,.int .i64 x.s.s.f,.int .i64 x.s.s.t,.int .i64 x.s.s.l.lv,.int .u32 (x.s.s.l.c:Int),.int .i64 x.now] 166));simp only[gJ.e,h0,h1,h2,if_false,Option.toList_none,List.append_nil] at hs1;clear TU hcx J3 apS;go_wp2;go_roundw
      case rel=>exact⟨k+1,v,ys,ω,ν,hBo.o.grows FZ.o,Oz.o.grows FZ.o,by rw[hs1.o];exact JA,fun y hy=>(hCy.o y hy).grows FZ.o,hB.o.grows FZ.o,hL.o.grows FZ.o,hG.o.trans FZ.o⟩
      case measure=>exact ψ
  ·obtain rfl:k=lm:=ω;have Tj:=hBo.o;have c0:=Tj.c0;have cl:=Tj.lt;go_wp2;go_ret;exact⟨v,ys,rfl,Oz.o.bJ ω,JA.o,fun y hy=>(hCy.o y hy).bJ ω,hG.o⟩
structure yX (w:World) (A:Option Addr) (m:Nat) (ys:List gJ):Prop where
 arr:bW w 13 qV A m ys
 at_:∀y∈ys,y.At w
 le:m≤1000
theorem yX.keep {w w':World} {A:Option Addr} {m:Nat} {ys:List gJ} (h:yX w A m ys) (hg:ah w w'):yX w' A m ys:=⟨h.arr.keep hg,fun y hy=>(h.at_ y hy).keep hg,h.le⟩
theorem hkE:∀x,(qV x).length=13:=fun _=>rfl
theorem yw {p:bU} {tt:fZ} {lA:Option Addr} {lm lk:Nat} {xs:List gJ} (w:World) (hp:p.At w) (mP:tt.ok) (hA:yX w lA lm xs) :
 Calls Tryz.prog 36 #[p.val,.slice lA lm lk,.agg #[.int .i64 tt.lv,.int .u32 (tt.c:Int)]] w fun e w'=>∃A m c ys,e =.returned (.slice A m c)∧yX w' A m ys∧ys.map (·.e)=kD p.aU (xs.map (·.e)) tt∧ah w w':=by
 refine (ahb w hp mP hA.arr hA.at_ hA.le).mono ?_;rintro e w' ⟨v,ys,rfl,hO,hm,hy,hG⟩;obtain⟨A,c,rfl,-,-,hX⟩:=hO.arr hkE;refine⟨A,ys.length,c,ys,rfl,⟨hX,fun y hy'=>(hy y hy').at_ hG,?_⟩,hm,hG⟩;have h1:=congrArg List.length hm;have h2:(kD p.aU (xs.map (·.e)) tt).length≤(xs.map (·.e)).length:=by unfold kD;exact List.length_filterMap_le ..
 have h3:=hA.arr.1;have h4:=hA.le;rw[List.length_map] at h1 h2;omega
theorem aj6 {A B:Option Addr} {m c m' c':Nat} {xs ys:List gJ} (w:World) (hx:yX w A m xs) (hy:yX w B m' ys) :
 Calls Tryz.prog 68 #[.slice A m c,.slice B m' c',.func (.func 69) #[] #[]] w fun e w'=>e =.returned (.bool (decide (xs.map (·.e)=ys.map (·.e))))∧ah w w':=by
 have h:=afS 69 (enters_of Tryz.func69 κ rfl) (fun a b=>decide (a.e = b.e)) A B m c m' c' xs ys w hx.arr hy.arr (by have:=hx.le;omega) (by have:=hy.le;omega) (fun a ha b hb V hV=>afP a b V ((hx.at_ a ha).keep hV) ((hy.at_ b hb).keep hV));rw[OV (f:=fun a:gJ=>a.e) (fun a _ b _=>rfl)] at h;exact h
theorem uK {p:bU} {tt:fZ} {A B:Option Addr} {m c m' c':Nat} {xs ys:List gJ} (w:World) (hp:p.At w) (mP:tt.ok) (hx:yX w A m xs) (hy:yX w B m' ys) :
 Calls Tryz.prog 33 #[p.val,.slice A m c,.slice B m' c',.agg #[.int .i64 tt.lv,.int .u32 (tt.c:Int)]] w fun e w'=>e =.returned (.bool (lu p.aU (xs.map (·.e)) (ys.map (·.e)) tt))∧ah w w':=by
 have cA:=ζ (fun W (hW:ah w W)=>yw (lk:=c) W (hp.keep hW) mP (hx.keep hW));have cB:=ζ (fun W (hW:ah w W)=>yw (lk:=c') W (hp.keep hW) mP (hy.keep hW));have hR:Hid (lu p.aU (xs.map (·.e)) (ys.map (·.e)) tt=decide (kD p.aU (xs.map (·.e)) tt=kD p.aU (ys.map (·.e)) tt)):=ζ rfl;generalize lu p.aU (xs.map (·.e)) (ys.map (·.e)) tt=R at *
 generalize kD p.aU (xs.map (·.e)) tt=CA at *
 generalize kD p.aU (ys.map (·.e)) tt=CB at *
 clear hp mP hx hy;unfold bU.val at *
 obtain⟨⟨sl,sA,sm,sk⟩,⟨rl,rA,rm,rk⟩,⟨el,eA,em,ek⟩,⟨al,aA,am,ak⟩,o,oA,om,ok,i,iA,im,ik⟩:=p;simp only at cA cB ⊢;have bP:aF ((w.alloc (.cells #[.slice sA sm sk,.slice rA rm rk,.slice eA em ek,.slice aA am ak,.slice oA om ok,.slice iA im ik] 50)).alloc (.cells #[.int .i64 tt.lv,.int .u32 (tt.c:Int)] 25)) w.heap.size 50 #[.slice sA sm sk,.slice rA rm rk,.slice eA em ek,.slice aA am ak,.slice oA om ok,.slice iA im ik]:=(aF.new w _ _).alloc _;have bL:aF ((w.alloc (.cells #[.slice sA sm sk,.slice rA rm rk,.slice eA em ek,.slice aA am ak,.slice oA om ok,.slice iA im ik] 50)).alloc (.cells #[.int .i64 tt.lv,.int .u32 (tt.c:Int)] 25)) (w.heap.size+1) 25 #[.int .i64 tt.lv,.int .u32 (tt.c:Int)]:=aF.kW w _ _ _;have hG:ah w ((w.alloc (.cells #[.slice sA sm sk,.slice rA rm rk,.slice eA em ek,.slice aA am ak,.slice oA om ok,.slice iA im ik] 50)).alloc (.cells #[.int .i64 tt.lv,.int .u32 (tt.c:Int)] 25)):=((ah.refl w).alloc _).alloc _;go_enter Tryz.func33,Tryz.ntmps33
 go_wp2_with fail;generalize (w.alloc (.cells #[.slice sA sm sk,.slice rA rm rk,.slice eA em ek,.slice aA am ak,.slice oA om ok,.slice iA im ik] 50)).alloc (.cells #[.int .i64 tt.lv,.int .u32 (tt.c:Int)] 25)=w0 at *
 have p0:=bP.cell 0;have p1:=bP.cell 1;have p2:=bP.cell 2;have p3:=bP.cell 3;have p4:=bP.cell 4;have p5:=bP.cell 5;have q0:=bL.cell 0;have q1:=bL.cell 1;simp only[List.getElem?_toArray,List.getElem?_cons_zero,List.getElem?_cons_succ] at p0 p1 p2 p3 p4 p5 q0 q1;have pz:=bP.lt;have qz:=bL.lt;clear bP bL;have aN:=ζ (ah.refl w0);replace hG:=ζ hG;refine aG κ ?_;refine rK [0,1,2,4,5,6] 4 ?_;iterate 6 refine aC ?_
 refine aB ?_;refine aH [3] κ σ (fun wN hN hS=>(au.cons rfl (fun K' hK=> ?_) au.nil));replace aN:=ζ (aN.o.trans hN);try replace hXA:=ζ (hXA.o.keep hN)
 try replace hXB:=ζ (hXB.o.keep hN)
 clear hN;go_simp;refine (cA.out _ (hG.o.trans aN.o)).mono ?_;rintro e w5 ⟨A3,m3,c3,ys3,rfl,hXA,hmA,fM⟩;replace aN:=ζ (aN.o.trans fM);try replace hXB:=ζ (hXB.o.keep fM)
 replace hXA:=ζ hXA;replace hmA:=ζ hmA;refine hK.o _ _ ?_ (fun hS=> ?_)
 ·exact aN.o
 clear fM;clear hK hS;refine aH [7] κ σ (fun wN hN hS=>(au.cons rfl (fun K' hK=> ?_) au.nil));replace aN:=ζ (aN.o.trans hN);try replace hXA:=ζ (hXA.o.keep hN)
 try replace hXB:=ζ (hXB.o.keep hN)
 clear hN;go_simp;refine (cB.out _ (hG.o.trans aN.o)).mono ?_;rintro e w5 ⟨A7,m7,c7,ys7,rfl,hXB,hmB,fM⟩;replace aN:=ζ (aN.o.trans fM);try replace hXA:=ζ (hXA.o.keep fM)
 replace hXB:=ζ hXB;replace hmB:=ζ hmB;refine hK.o _ _ ?_ (fun hS=> ?_)
 ·exact aN.o
 clear fM;clear hK hS;refine aH [8] κ σ (fun wN hN hS=>(au.cons rfl (fun K' hK=> ?_) au.nil));replace aN:=ζ (aN.o.trans hN);try replace hXA:=ζ (hXA.o.keep hN)
 try replace hXB:=ζ (hXB.o.keep hN)
 clear hN;go_simp;refine (aj6 _ hXA.o hXB.o).mono ?_;rintro e w5 ⟨rfl,fM⟩;rw[hmA.o,hmB.o,←hR.o];replace aN:=ζ (aN.o.trans fM);refine hK.o _ _ ?_ (fun hS=> ?_)
 ·exact aN.o
 clear fM;clear hK hS;refine rK [9] 0 ?_;iterate 1 refine aC ?_
 refine aB ?_;refine aJ κ (fun wN hN hS=> ?_);replace aN:=ζ (aN.o.trans hN);try replace hXA:=ζ (hXA.o.keep hN)
 try replace hXB:=ζ (hXB.o.keep hN)
 all_goals (
  go_wp2;go_ret;exact⟨rfl,hG.o.trans aN.o⟩)
theorem acd (p:fU) (a:List ES) (tO:fZ):lu p a a tO=true:=by unfold lu;simp
theorem ab_ (p:fU) (a b:List ES) (tO:fZ):lu p b a tO=lu p a b tO:=by
 unfold lu;by_cases h:kD p a tO=kD p b tO
 ·rw[decide_eq_true h,decide_eq_true h.symm]
 ·rw[decide_eq_false h,decide_eq_false (fun e=>h e.symm)]
theorem ags {p:fU} {a b:List ES} {tO:fZ} (h:lu p a b tO=true):(kD p a tO).length=(kD p b tO).length:=by
 unfold lu at h;rw[decide_eq_true_eq] at h;rw[h]
def gu (l:List ES):Nat:=(l.filter fun e=>decide (e.k=0)).length
theorem ZA (l:List ES) (e:ES):gu (l ++[e])=gu l + if e.k=0 then 1 else 0:=by
 unfold gu;rw[List.filter_append,List.length_append];by_cases h:e.k=0 <;> simp[h]
theorem ZC (l:List ES) (e:ES):gu (e ::l)=gu l + if e.k=0 then 1 else 0:=by
 unfold gu;rw[List.filter_cons];by_cases h:e.k=0 <;> simp[h]
end Go.Proofs.YtbhikkgpcmkonaaGreatDoor
namespace Go.Proofs.YtbhikkgpcmkonaaGreatDoor
open Go.RowKit Go.Maps Go.WideMaps
theorem dM.apw {S:Nat→Prop} {w w':World} {base ge b B:Nat} {rec:List UInt8} {now:Int} {gs:List GX} (h:dM w base ge b rec now B gs) (hO:nJ S w w') (hS:∀j,S j→j≠b∧∀cur te fz,w.heap[j]? = some (.cells cur te fz)→te∉Yq):dM w' base ge b rec now B gs:=by
 have hn:∀{g:Nat} {te:TypeId} {cs:Array Value},aF w g te cs→te∈Yq→¬S g:=fun hB ht hs=>(hS _ hs).2 _ _ _ hB ht
 have hu:∀{v:Value} {c:Uc} {g:Nat},wo w base g c v→wo w' base g c v:=fun hC=>
  ⟨hO.blk hC.blk (hn hC.blk δ),hC.told.off hO (fun m hm hs=>by
   obtain⟨cs,hB⟩:=(hC.told.nV m hm).2;exact hn hB δ hs),hC.ok,hC.VX,hC.len⟩
 refine⟨hO.blk h.blk (hn h.blk δ),?_,h.nd,h.gnd,h.cnd,fun x hx=>⟨hO.blk (h.at_ x hx).blk (hn (h.at_ x hx).blk δ),hu (h.at_ x hx).jC,(h.at_ x hx).Zl,(h.at_ x hx).cge,(h.at_ x hx).kl⟩,h.num,h.jC,h.ege,h.YK⟩;obtain⟨n,h1,D,⟨es,clock,he,hr⟩,hD⟩:=h.map;have hl:b < w.heap.size:=(Array.getElem?_eq_some_iff.1 he).1;exact⟨n,h1,D,⟨es,clock,(hO.block b hl (fun hs=>(hS b hs).1 rfl)).trans he,hr⟩,hD⟩
theorem dF.off {S:Nat→Prop} {w w':World} {base:Nat} {x:fG} (h:dF w base x) (hO:nJ S w w') (hS:∀j,S j→∀cur te fz,w.heap[j]? = some (.cells cur te fz)→te≠88∧te≠65):dF w' base x:=by
 have hf:∀{v:Value} {fs:List bK},Own w base 88 2 dW v fs→Own w' base 88 2 dW v fs:=fun ho=>ho.off hO (fun m hm hs=>by
  obtain⟨cs,hB⟩:=(ho.nV m hm).2;exact (hS m hs _ _ _ hB).1 rfl)
 refine⟨hf h.fH,h.ts.off hO (fun m hm hs=>by
  obtain⟨cs,hB⟩:=(h.ts.nV m hm).2;exact (hS m hs _ _ _ hB).2 rfl),fun y hy=>⟨hf (h.at_ y hy).1,(h.at_ y hy).2⟩,h.ble,h.RD,h.tle⟩
theorem dF.OW {w w':World} {base b0 ge b B:Nat} {rec:List UInt8} {now:Int} {gs:List GX} {x:fG} (h:dF w b0 x) (hE:dM w base ge b rec now B gs) (hO:nJ (uo ge b gs) w w'):dF w' b0 x:=
 h.off hO (fun j hj cur te fz hc=>by
  have hne:∀t,t∉Yq→te≠t:=fun t ht e=>by
   subst e;rcases hj with rfl | rfl | ⟨y,hy,rfl | rfl⟩
   ·exact ht (by rw[hE.blk.lG hc];decide)
   ·obtain⟨n,-,hM⟩:=hE.map;exact hM.aX _ _ _ hc
   ·exact ht (by rw[(hE.at_ y hy).blk.lG hc];decide)
   ·exact ht (by rw[(hE.at_ y hy).jC.blk.lG hc];decide)
  exact⟨hne _ δ,hne _ δ⟩)
theorem TV {fb:cZ→Bool} {p:bU} {w:World} (hp:p.At w) (xE:fP fb p.aU=0):(∀r∈p.i,r.bm≤1000000)∧p.im≤1000:=by
 obtain⟨h1,h2⟩:=CS xE;have hi:p.aU.jT=p.i.map (·.i):=rfl;constructor
 ·intro r hr;unfold ab2 at h2;rw[Bool.or_eq_false_iff,Bool.or_eq_false_iff] at h2;have h3:vI fb r.i = false:=by
   cases hb:vI fb r.i with
   | false=>rfl
   | true=>
    have:p.aU.jT.any (vI fb)=true:=List.any_eq_true.2 ⟨r.i,by rw[hi];exact List.mem_map.2 ⟨r,hr,rfl⟩,hb⟩;rw[h2.2.2] at this;cases this
  unfold vI at h3;rw[Bool.or_eq_false_iff] at h3;have h4:r.i.fH.length≤8:=by
   have h5:byB r.i.fH=true:=by simpa using h3.1
   unfold byB at h5;simp only[Bool.and_eq_true,decide_eq_true_eq] at h5;exact h5.2
  have h5:=((hp.iAt r hr).fH).1;omega
 ·have h3:=(H8 h1).2;have h4:p.aU.jT.length=p.im:=by rw[hi,List.length_map,hp.i.1]
  omega
def Xu (k:Nat):Nat:=k*3456
theorem yK (k:Nat):Xu (k+1)=Xu k+3456:=by unfold Xu;rw[Nat.add_mul,Nat.one_mul]
theorem Xt {k:Nat} (h:k≤100):Xu k≤400000:=by unfold Xu;omega
theorem YR (mk:m_→Int→Option Nj) (p:fU) (now:Int):∀(l:List m_) (s:ak4),(l.foldl (J5 mk p now) s).out.length≤s.out.length+l.length
 | [],s=>by simp
 | g ::l,s=>by
  have h:=YR mk p now l (J5 mk p now s g);have h1:(J5 mk p now s g).out.length≤s.out.length+1:=by
   unfold J5;simp only;split
   ·rw[List.length_append];have:∀o:Option Nj,o.toList.length≤1:=fun o=>by cases o <;> simp
    have:=this (mk g (((um s.gs (dn g.route g.fH)).getD (QO p g.route)).number+1));omega
   ·omega
  rw[List.foldl_cons,List.length_cons];omega
theorem ahS (fb:cZ→Bool) (ft:List bK→cZ→Bool) (p:fU) (rec:List UInt8) (st:Eng) (l:List iD) (q:oC) (now:Int):(kE fb ft p rec st l q now).2.length≤288*l.length:=by
 unfold kE;split
 ·have h1:=YR (fun x n=>jS fb p rec x (H7 fb ft p rec l q now) n now) p now (mV fb ft p rec (H7 fb ft p rec l q now) now) ⟨st.gs.filter fun x=>uP p x.2,[],[]⟩;have h2:=(KL fb ft p rec (H7 fb ft p rec l q now) now).2;have h3:(H7 fb ft p rec l q now).length≤l.length:=Nat.le_trans (List.length_filterMap_le ..) NJ;unfold CZ;simp only[List.length_nil,Nat.zero_add] at h1 ⊢;omega
 ·simp
structure jK (w wr:World) (rec:List UInt8) (ge b gq bq gP k:Nat) (pc:Array Value) (n0:Int) (gs:List GX) (q:QX) (last:Nat) (tA:Option Addr) (tk:Nat) (ts:List dA) (oA:Option Addr) (ok:Nat) (ls:List fG) (st:VSt):Prop where
 CG:dM wr w.heap.size ge b rec n0 (k*3456) gs
 VY:jd wr w.heap.size gq bq q last
 ne:bq≠b
 Zl:w.heap.size≤gq
 YK:w.heap.size≤bq
 aU:aF wr gP 50 pc
 told:Own wr w.heap.size 57 6 tq (.slice tA ts.length tk) ts
 tat:∀x∈ts,x.At w
 out:Own wr w.heap.size 64 6 jY (.slice oA ls.length ok) ls
 outs:∀x∈ls,dF wr w.heap.size x
 g:ah w wr
 ql:q.length≤k
 ll:last≤k
 ol:ls.length≤Xu k
 st:st=⟨⟨n0,dJ gs⟩,ts.map (·.a),bF q last,ls.map (·.yc)⟩
theorem jK.o {w wr:World} {rec:List UInt8} {ge b gq bq gP k:Nat} {pc:Array Value} {n0:Int} {gs:List GX} {q:QX} {last:Nat} {tA:Option Addr} {tk:Nat} {ts:List dA} {oA:Option Addr} {ok:Nat} {ls:List fG} {st:VSt} (h:jK w wr rec ge b gq bq gP k pc n0 gs q last tA tk ts oA ok ls st):Own wr w.heap.size 64 6 jY (.slice oA ls.length ok) ls:=h.out
section
variable {w wr w':World} {rec:List UInt8} {ge b gq bq gP k:Nat} {pc:Array Value} {n0:Int} {gs:List GX} {q:QX} {last:Nat} {tA:Option Addr} {tk:Nat} {ts:List dA} {oA:Option Addr} {ok:Nat} {ls:List fG} {st:VSt}
theorem jK.grows (h:jK w wr rec ge b gq bq gP k pc n0 gs q last tA tk ts oA ok ls st) (hg:ah wr w'):jK w w' rec ge b gq bq gP k pc n0 gs q last tA tk ts oA ok ls st:=
 ⟨h.CG.grows hg,h.VY.grows hg,h.ne,h.Zl,h.YK,h.aU.grows hg,h.told.grows hg,h.tat,h.o.grows hg,fun x hx=>(h.outs x hx).grows hg,h.g.trans hg,h.ql,h.ll,h.ol,h.st⟩
theorem jK.more (h:jK w wr rec ge b gq bq gP k pc n0 gs q last tA tk ts oA ok ls st):jK w wr rec ge b gq bq gP (k+1) pc n0 gs q last tA tk ts oA ok ls st:=
 ⟨h.CG.more ω,h.VY,h.ne,h.Zl,h.YK,h.aU,h.told,h.tat,h.o,h.outs,h.g,by have:=h.ql;omega,by have:=h.ll;omega,by have:=h.ol;have:=yK k;omega,h.st⟩
theorem jK.tell (h:jK w wr rec ge b gq bq gP k pc n0 gs q last tA tk ts oA ok ls st) {x:dA} {A':Option Addr} {k':Nat} (hx:x.At w) (hO:Own w' w.heap.size 57 6 tq (.slice A' (ts++[x]).length k') (ts++[x])) (hg:wr.grownBy w' (Value.slice tA ts.length tk).ownBlock) {fb:cZ→Bool} {ft:List bK→cZ→Bool} {p:fU} {e:ES} (he:e.k=0) (ha:e.a = x.a) :
 jK w w' rec ge b gq bq gP (k+1) pc n0 gs q last A' k' (ts++[x]) oA ok ls (eU fb ft p rec st e):=by
 have MP:∀m,(Value.slice tA ts.length tk).ownBlock=some m→w.heap.size≤m∧∃cs,aF wr m 57 cs:=h.told.nV;have hne:∀{g:Nat} {te:TypeId} {cs:Array Value},aF wr g te cs→te≠57→some g≠(Value.slice tA ts.length tk).ownBlock:=fun hB h1 e=>by
  obtain⟨cs,h2⟩:=(MP _ e.symm).2;exact hB.Ku h2 h1 rfl
 have hOk:∀{α:Type} {b0 n:Nat} {e:TypeId} {enc:α→List Value} {u:Value} {xs:List α},Own wr b0 e n enc u xs→e≠57→Own w' b0 e n enc u xs:=fun hO h1=>
  hO.kept' hg (fun j hj hv=>by obtain⟨cs,h2⟩:=(MP j hj).2;exact aZ hO h2 h1 hv)
 have hmap:∀m,(∀cur te fz,wr.heap[m]?≠some (.cells cur te fz))→some m≠(Value.slice tA ts.length tk).ownBlock:=fun m hm e=>by
  obtain⟨cs,h2⟩:=(MP _ e.symm).2;exact hm _ _ _ h2
 obtain⟨n,-,hM⟩:=h.CG.map;refine⟨(h.CG.other hg (hmap b hM.aX) (fun m hm cur te fz hc=>by obtain⟨cs,h2⟩:=(MP m hm).2;rw[h2.lG hc];decide)).more ω,h.VY.row hg (hne h.VY.blk δ) (hmap bq h.VY.map.aX) (fun j hj y hy hv=>by obtain⟨cs,h2⟩:=(MP j hj).2;exact aZ (h.VY.DX y hy) h2 δ hv),h.ne,h.Zl,h.YK,h.aU.aO hg (hne h.aU δ),hO,?_,hOk h.o δ,fun y hy=>(h.outs y hy).row hg (fun m hm cur te fz hc=>by obtain⟨cs,h2⟩:=(MP m hm).2;rw[h2.lG hc];constructor <;> decide),h.g.aO hg (fun m hm=>(MP m hm).1),by have:=h.ql;omega,by have:=h.ll;omega,by have:=h.ol;have:=yK k;omega,?_⟩
 ·intro y hy;rcases List.mem_append.1 hy with h1 | h1
  ·exact h.tat y h1
  ·rw[List.mem_singleton] at h1;subst h1;exact hx
 ·unfold eU;rw[if_pos he,h.st,ha];simp
end
section
variable {w wr w':World} {rec:List UInt8} {ge b gq bq gP k:Nat} {pc:Array Value} {n0:Int} {gs:List GX} {q:QX} {last:Nat} {tA:Option Addr} {tk:Nat} {ts:List dA} {oA:Option Addr} {ok:Nat} {ls:List fG} {st:VSt}
theorem jK.lay (h:jK w wr rec ge b gq bq gP k pc n0 gs q last tA tk ts oA ok ls st) {q':QX} {Kz:Nat} {s:Sil} {fb:cZ→Bool} {ft:List bK→cZ→Bool} {p:fU} {e:ES} (hL:jd w' w.heap.size gq bq q' Kz) (hs:bF q' Kz=Jv fb (bF q last) s) (hq:q'.length≤q.length+1) (hl:Kz≤last+1) (hO:nJ (fun j=>j = gq∨j = bq) wr w') (he:e.k=1) (hes:e.s = s) :
 jK w w' rec ge b gq bq gP (k+1) pc n0 gs q' Kz tA tk ts oA ok ls (eU fb ft p rec st e):=by
 have hS:∀j,(j = gq∨j = bq)→∀cur te fz,wr.heap[j]? = some (.cells cur te fz)→te=141:=fun j hj cur te fz hc=>by
  rcases hj with rfl | rfl
  ·exact h.VY.blk.lG hc
  ·exact (h.VY.map.aX _ _ _ hc).elim
 have hn:∀{g:Nat} {te:TypeId} {cs:Array Value},aF wr g te cs→te≠141→¬(g = gq∨g = bq):=fun hB ht hs=>ht (hS _ hs _ _ _ hB)
 have hOk:∀{α:Type} {b0 n:Nat} {e:TypeId} {enc:α→List Value} {u:Value} {xs:List α},Own wr b0 e n enc u xs→e≠141→Own w' b0 e n enc u xs:=fun ho h1=>
  ho.off hO (fun m hm=>by obtain⟨cs,hB⟩:=(ho.nV m hm).2;exact hn hB h1)
 obtain⟨n,-,hM⟩:=h.CG.map;refine⟨(h.CG.apw hO (fun j hj=>⟨?_,fun cur te fz hc=>by rw[hS j hj _ _ _ hc];decide⟩)).more ω,hL,h.ne,h.Zl,h.YK,hO.blk h.aU (hn h.aU δ),hOk h.told δ,h.tat,hOk h.o δ,fun y hy=>(h.outs y hy).off hO (fun j hj cur te fz hc=>by rw[hS j hj _ _ _ hc];constructor <;> decide),hO.grown h.g (fun j hj=>by rcases hj with rfl | rfl;exact h.Zl;exact h.YK),by have:=h.ql;omega,by have:=h.ll;omega,by have:=h.ol;have:=yK k;omega,?_⟩
 ·rcases hj with rfl | rfl
  ·intro e;exact hM.aX _ _ _ (by rw[←e];exact h.VY.blk)
  ·exact h.ne
 ·unfold eU;rw[if_neg (by rw[he];decide),if_pos he,h.st,hes,hs]
theorem jK.none_ (h:jK w wr rec ge b gq bq gP k pc n0 gs q last tA tk ts oA ok ls st) (hg:ah wr w') {fb:cZ→Bool} {ft:List bK→cZ→Bool} {p:fU} {e:ES} (h0:e.k≠0) (h1:e.k≠1) (h2:e.k≠2) :
 jK w w' rec ge b gq bq gP (k+1) pc n0 gs q last tA tk ts oA ok ls (eU fb ft p rec st e):=by
 have:eU fb ft p rec st e = st:=by unfold eU;rw[if_neg h0,if_neg h1,if_neg h2]
 rw[this];exact (h.grows hg).more
theorem jK.no (h:jK w wr rec ge b gq bq gP k pc n0 gs q last tA tk ts oA ok ls st) (hg:ah wr w') {fb:cZ→Bool} {ft:List bK→cZ→Bool} {p:fU} {e:ES} (h2:e.k=2) (hm:AP fb p rec st.CG e.now≠0) :
 jK w w' rec ge b gq bq gP (k+1) pc n0 gs q last tA tk ts oA ok ls (eU fb ft p rec st e):=by
 have:eU fb ft p rec st e = st:=by
  unfold eU kE;rw[if_neg (by rw[h2];decide),if_neg (by rw[h2];decide),if_pos h2,if_neg hm];simp
 rw[this];exact (h.grows hg).more
theorem jK.step (h:jK w wr rec ge b gq bq gP k pc n0 gs q last tA tk ts oA ok ls st) {fb:cZ→Bool} {ft:List bK→cZ→Bool} {p:bU} {now:Int} {e:Ending} (hm:AP fb p.aU rec ⟨n0,dJ gs⟩ now=0) (hP:C_ fb ft p rec wr w.heap.size ge b (k*3456) n0 now gs ts (bF q last) e w') (hts:ts.length≤12) :
 ∃(A2:Option Addr) (c2:Nat) (UO:List fG) (Ru:List GX),e =.returned (.tuple #[.slice A2 UO.length c2,.int .i64 0])∧Own w' wr.heap.size 64 6 jY (.slice A2 UO.length c2) UO∧(∀x∈UO,dF w' w.heap.size x)∧UO.length≤3456∧UO.map (·.yc)=(kE fb ft p.aU rec ⟨n0,dJ gs⟩ (ts.map (·.a)) (bF q last) now).2∧
  jK w w' rec ge b gq bq gP (k+1) pc now Ru q last tA tk ts oA ok ls ⟨(kE fb ft p.aU rec ⟨n0,dJ gs⟩ (ts.map (·.a)) (bF q last) now).1,st.told,st.q,st.out⟩:=by
 obtain⟨v,UO,Ru,rfl,hE,hN,hO,hLs,hl,afm,hg,hls⟩:=hP;obtain⟨A2,c2,rfl,-,-,-⟩:=hO.arr ajk;have uf:UO.length≤3456:=by
  have h1:=ahS fb ft p.aU rec ⟨n0,dJ gs⟩ (ts.map (·.a)) (bF q last) now;rw[←hls,List.length_map,List.length_map] at h1;omega
 have ajb:(kE fb ft p.aU rec ⟨n0,dJ gs⟩ (ts.map (·.a)) (bF q last) now).1.now=now:=by unfold kE;rw[if_pos hm]
 refine⟨A2,c2,UO,Ru,rfl,hO,fun x hx=>(hLs x hx).bJ h.g.size,uf,hls,hE.more ω,h.VY.off h.CG h.ne afm,h.ne,h.Zl,h.YK,afm.blk h.aU (OX h.CG h.aU δ),h.told.OW h.CG δ afm,h.tat,h.o.OW h.CG δ afm,fun x hx=>(h.outs x hx).OW h.CG afm,afm.grown h.g (fun j hj=>ac8 h.CG hj),by have:=h.ql;omega,by have:=h.ll;omega,by have:=h.ol;have:=yK k;omega,?_⟩;rw[h.st];generalize kE fb ft p.aU rec ⟨n0,dJ gs⟩ (ts.map (·.a)) (bF q last) now=R at *
 obtain⟨⟨rn,rg⟩,rl⟩:=R;simp only at ajb hg;subst ajb hg;rfl
theorem jK.push (h:jK w wr rec ge b gq bq gP (k+1) pc n0 gs q last tA tk ts oA ok ls st) {A':Option Addr} {k':Nat} {UO:List fG} {o0:List Nj} (hO:Own w' w.heap.size 64 6 jY (.slice A' (ls++UO).length k') (ls++UO)) (hg:wr.grownBy w' (Value.slice oA ls.length ok).ownBlock) (h2:∀x∈UO,dF wr w.heap.size x) (hl:(ls++UO).length≤Xu (k+1)) (ho:UO.map (·.yc)=o0) :
 jK w w' rec ge b gq bq gP (k+1) pc n0 gs q last tA tk ts A' k' (ls++UO) ⟨st.CG,st.told,st.q,st.out++o0⟩:=by
 have MP:∀m,(Value.slice oA ls.length ok).ownBlock=some m→w.heap.size≤m∧∃cs,aF wr m 64 cs:=h.o.nV;have hne:∀{g:Nat} {te:TypeId} {cs:Array Value},aF wr g te cs→te≠64→some g≠(Value.slice oA ls.length ok).ownBlock:=fun hB h1 e=>by
  obtain⟨cs,h2⟩:=(MP _ e.symm).2;exact hB.Ku h2 h1 rfl
 have hOk:∀{α:Type} {b0 n:Nat} {e:TypeId} {enc:α→List Value} {u:Value} {xs:List α},Own wr b0 e n enc u xs→e≠64→Own w' b0 e n enc u xs:=fun hO h1=>
  hO.kept' hg (fun j hj hv=>by obtain⟨cs,h2⟩:=(MP j hj).2;exact aZ hO h2 h1 hv)
 have hmap:∀m,(∀cur te fz,wr.heap[m]?≠some (.cells cur te fz))→some m≠(Value.slice oA ls.length ok).ownBlock:=fun m hm e=>by
  obtain⟨cs,h2⟩:=(MP _ e.symm).2;exact hm _ _ _ h2
 have hrow:∀{x:fG},dF wr w.heap.size x→dF w' w.heap.size x:=fun hx=>hx.row hg (fun m hm cur te fz hc=>by obtain⟨cs,h2⟩:=(MP m hm).2;rw[h2.lG hc];constructor <;> decide)
 obtain⟨n,-,hM⟩:=h.CG.map;refine⟨h.CG.other hg (hmap b hM.aX) (fun m hm cur te fz hc=>by obtain⟨cs,h2⟩:=(MP m hm).2;rw[h2.lG hc];decide),h.VY.row hg (hne h.VY.blk δ) (hmap bq h.VY.map.aX) (fun j hj y hy hv=>by obtain⟨cs,h2⟩:=(MP j hj).2;exact aZ (h.VY.DX y hy) h2 δ hv),h.ne,h.Zl,h.YK,h.aU.aO hg (hne h.aU δ),hOk h.told δ,h.tat,hO,?_,h.g.aO hg (fun m hm=>(MP m hm).1),h.ql,h.ll,hl,?_⟩
 ·intro x hx;rcases List.mem_append.1 hx with h1 | h1
  ·exact hrow (h.outs x h1)
  ·exact hrow (h2 x h1)
 ·rw[h.st,←ho];simp
end
theorem Yp {fb:cZ→Bool} {ft:List bK→cZ→Bool} {p:fU} {rec:List UInt8} {st:VSt} {e:ES} {CG:Eng} {tl:List iD} {qq:oC} {o:List Nj} (h2:e.k=2) (hst:st=⟨CG,tl,qq,o⟩) :
 eU fb ft p rec st e = ⟨(kE fb ft p rec CG tl qq e.now).1,st.told,st.q,st.out++(kE fb ft p rec CG tl qq e.now).2⟩:=by
 subst hst;unfold eU;rw[if_neg (by rw[h2];decide),if_neg (by rw[h2];decide),if_pos h2]
theorem Xb {fb:cZ→Bool} {ft:List bK→cZ→Bool} {p:fU} {rec:List UInt8} {xs:List gJ} {k:Nat} {x:gJ} (h:xs[k]? = some x):kM fb ft p rec ((xs.take (k+1)).map (·.e))=eU fb ft p rec (kM fb ft p rec ((xs.take k).map (·.e))) x.e:=by
 unfold kM;rw[List.take_add_one,h,List.map_append,List.foldl_append];rfl
theorem Zz {xs:List gJ} {k:Nat}:gu ((xs.take k).map (·.e))≤gu (xs.map (·.e)):=by
 unfold gu;exact (((List.take_sublist k xs).map (·.e)).filter _).length_le
theorem WR {fb:cZ→Bool} {ft:List bK→cZ→Bool} {p:fU} {rec:List UInt8}:∀(l:List ES) (st:VSt),(l.foldl (eU fb ft p rec) st).told.length=st.told.length+gu l
 | [],_=>by simp[gu]
 | e ::l,st=>by
  rw[List.foldl_cons,WR l,ZC];unfold eU;by_cases h0:e.k=0
  ·rw[if_pos h0];simp[h0];omega
  ·rw[if_neg h0];split
   ·simp
   ·split <;> simp
def Pq (w:World) (L:List Nj) (e:Ending) (w':World):Prop:=
 ∃(A:Option Addr) (c:Nat) (ls:List fG),e =.returned (.slice A ls.length c)∧bW w' 6 jY A ls.length ls∧(∀x∈ls,dF w' w.heap.size x)∧ls.map (·.yc)=L∧ls.length≤400000∧ah w w'
theorem J_ {fb:cZ→Bool} {ft:List bK→cZ→Bool} {p:bU} {rec:List UInt8} {lA:Option Addr} {lm lk:Nat} {xs:List gJ} (w:World) (he:oD w) (hu:oz w) (hp:p.At w) (X0:∀y,mO fb y) (hta:∀y,lN ft y) (hX:yX w lA lm xs) (JG:lm≤50) (htl:gu (xs.map (·.e))≤12) :
 Calls Tryz.prog 35 #[p.val,.string ⟨rec.toArray⟩,.slice lA lm lk] w (Pq w (lH fb ft p.aU rec (xs.map (·.e)))):=by
 have lJ:=hX.arr.1;have hFb:lQ fb p:=⟨fun _ _ y _=>X0 y,fun _ _=>⟨fun y _=>X0 y,fun y _=>X0 y⟩⟩;have hFt:IQ ft p:=fun _ _ y _=>hta y
 have hFi:Px ft p:=fun _ _=>⟨fun y _=>hta y,fun y _=>hta y⟩
 have iY:=ζ (fun k (x:gJ) (h:xs[k]? = some x)=>Xb (fb:=fb) (ft:=ft) (p:=p.aU) (rec:=rec) h);have atW:=ζ (fun k=>show (kM fb ft p.aU rec ((xs.take k).map (·.e))).told.length≤12 by
  have h1:=WR (fb:=fb) (ft:=ft) (p:=p.aU) (rec:=rec) ((xs.take k).map (·.e)) adB;have h2:=Zz (xs:=xs) (k:=k);have h3:adB.told.length=0:=rfl;unfold kM;omega)
 have aQ:lH fb ft p.aU rec (xs.map (·.e))=(kM fb ft p.aU rec ((xs.take lm).map (·.e))).out:=by rw[List.take_of_length_le ω];rfl
 have L8:kM fb ft p.aU rec ((xs.take 0).map (·.e))=adB:=rfl;rw[aQ];clear aQ;generalize hT:(fun k=>kM fb ft p.aU rec ((xs.take k).map (·.e)))=T at *
 have hTk:∀k,kM fb ft p.aU rec ((xs.take k).map (·.e))=T k:=fun k=>by rw[←hT]
 simp only[hTk] at *
 clear hT hTk;have av2:=ζ (fun (W:World) (ge b B gq bq last:Nat) (n0 now:Int) (gs:List GX) (q:QX) (tA:Option Addr) (tk:Nat) (ts:List dA) (hW:ah w W) (hat:∀x∈ts,x.At w) hA hL hne V4 hE hB azj hm=>abN (fb:=fb) (ft:=ft) (p:=p) (base:=w.heap.size) (bl:=w.heap.size) (ge:=ge) (b:=b) (B:=B) (gq:=gq) (bq:=bq) (last:=last) (rec:=rec) (n0:=n0) (now:=now) (gs:=gs) (lA:=tA) (lm:=ts.length) (lk:=tk) (xs:=ts) (q:=q) w W hW (Nat.le_refl _) he hu hp hat hA hL hne hFb hFt hFi (TV hp (aaL hm).2.2.2).1 (TV hp (aaL hm).2.2.2).2 (fun _ _ y _=>hta y) V4 hE hW.size hB azj hm);have cNo:=ζ (fun (W:World) (ge b:Nat) (n0 now:Int) (gs:List (List UInt8×Ar)) (lv sv:Value) (hW:ah w W) hB hm=>aj7 (fb:=fb) (p:=p) (rec:=rec) (st:=⟨n0,gs⟩) (now:=now) (ge:=ge) (b:=b) (lv:=lv) (sv:=sv) W (hp.keep hW) hFb hB hm);have aA1:=ζ (fun (W:World) (gq bq last:Nat) (q:QX) (x:xZ) hL (hW:ah w W) (hx:x.At w) hl hq=>al_ (fb:=fb) (base:=w.heap.size) (g:=gq) (b:=bq) (last:=last) (q:=q) (x:=x) W hL hW.size (hx.keep hW) (fun y _=>X0 y) hl hq);have av3:=ζ (fun W=>ake rec W);have cQ:=ζ (fun W=>adR W w.heap.size);have hXh:=ζ hX;have hb0:=aF.new w 50 #[.slice p.s.A p.s.m p.s.k,.slice p.r.A p.r.m p.r.k,.slice p.e.A p.e.m p.e.k,.slice p.a.A p.a.m p.a.k,.slice p.oA p.om p.ok,.slice p.iA p.im p.ik];have hg0:ah w (w.alloc (.cells #[.slice p.s.A p.s.m p.s.k,.slice p.r.A p.r.m p.r.k,.slice p.e.A p.e.m p.e.k,.slice p.a.A p.a.m p.a.k,.slice p.oA p.om p.ok,.slice p.iA p.im p.ik] 50)):=(ah.refl w).alloc _;unfold bU.val at *
 clear he hu hp X0 hta hX hFb hFt hFi htl;replace hb0:=ζ hb0;replace hg0:=ζ hg0;go_enter Tryz.func35,Tryz.ntmps35
 go_wp2_with fail;refine (av3.out _).mono ?_;rintro e w1 ⟨ge,b,rfl,hEb,hM,qA,hbb,hb1⟩;have aqf:w.heap.size≤ge∧w.heap.size≤b:=by
  have:=hg0.o.size;exact⟨ω,ω⟩
 have I8:=afT (base:=w.heap.size) hEb hM aqf.1 aqf.2;have hbl:=hM.lt;have hg1:=ζ (hg0.o.trans hb1);replace hb0:=ζ (hb0.o.grows hb1);replace I8:=ζ I8;clear hg0 hb1 hEb hM qA hbb av3 aqf;go_wp2_with fail;refine (cQ.out w1).mono ?_;rintro e w2 ⟨gq,bq,rfl,hL2,hgq,hbq,hgb,hb2⟩;have U8:=hg1.o.size;have I5:Hid (jK w w2 rec ge b gq bq w.heap.size 0 #[.slice p.s.A p.s.m p.s.k,.slice p.r.A p.r.m p.r.k,.slice p.e.A p.e.m p.e.k,.slice p.a.A p.a.m p.a.k,.slice p.oA p.om p.ok,.slice p.iA p.im p.ik] (-1) [] [] 0 none 0 [] none 0 [] (T 0)):=
  ζ ⟨(I8.o.grows hb2).more ω,hL2,ω,ω,ω,hb0.o.grows hb2,Own.iH _ _ _ _ _,fun x hx=>(List.not_mem_nil hx).elim,Own.iH _ _ _ _ _,fun x hx=>(List.not_mem_nil hx).elim,hg1.o.trans hb2,Nat.zero_le _,Nat.zero_le _,Nat.zero_le _,by rw[L8];rfl⟩
 clear hg1 hb0 I8 hbl hL2 hgq hbq hgb hb2 U8 cQ L8;go_wp2;go_loopw [9,10,20] (fun t o i wr=>∃(k:Nat) (n0:Int) (gs:List GX) (q:QX) (last:Nat) (tA:Option Addr) (tk:Nat) (ts:List dA) (oA:Option Addr) (ok:Nat) (ls:List fG),k≤lm∧i =.int .i64 (k:Int)∧t =.slice tA ts.length tk∧o =.slice oA ls.length ok∧Hid (jK w wr rec ge b gq bq w.heap.size k #[.slice p.s.A p.s.m p.s.k,.slice p.r.A p.r.m p.r.k,.slice p.e.A p.e.m p.e.k,.slice p.a.A p.a.m p.a.k,.slice p.oA p.om p.ok,.slice p.iA p.im p.ik] n0 gs q last tA tk ts oA ok ls (T k))) (fun _ _ i _=>lm-(intOf i).toNat)
 case atStart=>exact⟨0,_,[],[],0,none,0,[],none,0,[],ω,rfl,rfl,rfl,I5⟩
 case round=>
  obtain⟨k,n0,gs,q,last,tA,tk,ts,oA,ok,ls,hk,rfl,rfl,rfl,hR⟩:=hrel;by_cases wB:k<lm
  ·obtain⟨bb,off,x,rfl,GV,hx,hcell⟩:=(hXh.o.arr.keep hR.o.g).at_ wB;have c0:wr.cell? ⟨bb,off+k*13,none⟩=some (.int .i64 x.k):=hcell 0 _ rfl;have c1:wr.cell? ⟨bb,off+k*13+1,none⟩=some (.string ⟨x.a.a.src.toArray⟩):=hcell 1 _ rfl;have c2:wr.cell? ⟨bb,off+k*13+2,none⟩=some (.slice x.a.A x.a.m x.a.k):=hcell 2 _ rfl;have c3:wr.cell? ⟨bb,off+k*13+3,none⟩=some (.int .i64 x.a.a.l.lv):=hcell 3 _ rfl;have c4:wr.cell? ⟨bb,off+k*13+4,none⟩=some (.int .u32 (x.a.a.l.c:Int)):=hcell 4 _ rfl;have c5:wr.cell? ⟨bb,off+k*13+5,none⟩=some (.int .i64 x.a.a.f):=hcell 5 _ rfl;have c6:wr.cell? ⟨bb,off+k*13+6,none⟩=some (.int .i64 x.a.a.t):=hcell 6 _ rfl;have c7:wr.cell? ⟨bb,off+k*13+7,none⟩=some (.slice x.s.A x.s.m x.s.k):=hcell 7 _ rfl;have c8:wr.cell? ⟨bb,off+k*13+8,none⟩=some (.int .i64 x.s.s.f):=hcell 8 _ rfl;have c9:wr.cell? ⟨bb,off+k*13+9,none⟩=some (.int .i64 x.s.s.t):=hcell 9 _ rfl;have c10:wr.cell? ⟨bb,off+k*13+10,none⟩=some (.int .i64 x.s.s.l.lv):=hcell 10 _ rfl;have c11:wr.cell? ⟨bb,off+k*13+11,none⟩=some (.int .u32 (x.s.s.l.c:Int)):=hcell 11 _ rfl;have c12:wr.cell? ⟨bb,off+k*13+12,none⟩=some (.int .i64 x.now):=hcell 12 _ rfl;have kY:(k:Int)<(lm:Int):=ω;have wu:=List.mem_of_getElem? hx;have aa1:=ζ (hXh.o.at_ x wu);have Zb:=ζ (iY.o k x hx);have hts:ts.length≤12:=by
    have h1:=atW.o k;rw[hR.o.st] at h1;simpa using h1
   have hst:=ζ hR.o.st;have U7:=hR.o.g.size;have SS:=ζ (show ls.length≤400000 by have h1:=hR.o.ol;have h2:=Xt (k:=k) ω;omega);have jG:ah wr (wr.alloc (.cells #[.int .i64 x.k,.string ⟨x.a.a.src.toArray⟩,.slice x.a.A x.a.m x.a.k,.int .i64 x.a.a.l.lv,.int .u32 (x.a.a.l.c:Int),.int .i64 x.a.a.f,.int .i64 x.a.a.t,.slice x.s.A x.s.m x.s.k,.int .i64 x.s.s.f,.int .i64 x.s.s.t,.int .i64 x.s.s.l.lv,.int .u32 (x.s.s.l.c:Int),.int .i64 x.now] 166)):=(ah.refl wr).alloc _;have MQ:=ζ (hR.o.grows jG);have pB:=hR.o.aU;have p0:=pB.cell 0;have p1:=pB.cell 1;have p2:=pB.cell 2;have p3:=pB.cell 3;have p4:=pB.cell 4;have p5:=pB.cell 5;have pz:=pB.lt;simp only[List.getElem?_toArray,List.getElem?_cons_zero,List.getElem?_cons_succ] at p0 p1 p2 p3 p4 p5;replace jG:=ζ jG;clear pB hcell hx wu I5;by_cases h0:x.k=0
   ·have h0z:(x.k==0)=true:=by simp[h0]
    have hgb:=ζ ((ah.refl (wr.alloc (.cells #[.int .i64 x.k,.string ⟨x.a.a.src.toArray⟩,.slice x.a.A x.a.m x.a.k,.int .i64 x.a.a.l.lv,.int .u32 (x.a.a.l.c:Int),.int .i64 x.a.a.f,.int .i64 x.a.a.t,.slice x.s.A x.s.m x.s.k,.int .i64 x.s.s.f,.int .i64 x.s.s.t,.int .i64 x.s.s.l.lv,.int .u32 (x.s.s.l.c:Int),.int .i64 x.now] 166))).alloc (.cells #[.string ⟨x.a.a.src.toArray⟩,.slice x.a.A x.a.m x.a.k,.int .i64 x.a.a.l.lv,.int .u32 (x.a.a.l.c:Int),.int .i64 x.a.a.f,.int .i64 x.a.a.t] 57));have hRb:=ζ (MQ.o.grows hgb.o);replace h0:=ζ h0;go_wp2_with (at_builtin;go_loud (refine dH (x:=x.a) aoO rfl (.tmp 28) (.tmp 31) rfl hRb.o.told rfl ⟨wr.heap.size+1,0,none⟩ rfl rfl (iK (by exact aF.kW wr _ _ _)) (an3 x.a) (by simp;omega) (by unfold maxLen;omega) ω (fun v7 w7 rG hgr qQ=> ?_);(obtain⟨g7,k7,rfl⟩:=lV rG σ);(have PK:=ζ (hRb.o.tell (fb:=fb) (ft:=ft) (p:=p.aU) (e:=x.e) aa1.o.a rG hgr h0.o rfl));clear rG hgr qQ));rw[←Zb.o] at PK;clear hR MQ hRb jG hgb hst Zb aa1;go_roundw
    case rel=>exact⟨k+1,n0,gs,q,last,_,k7,ts++[x.a],oA,ok,ls,ω,ν,by simp,rfl,PK⟩
    case measure=>exact ψ
   ·have h0z:(x.k==0)=false:=by simp[h0]
    by_cases h1:x.k=1
    ·have h1z:(x.k==1)=true:=by simp[h1]
     replace h1:=ζ h1;have cL:=aA1.out _ gq bq last q x.s MQ.o.VY MQ.o.g aa1.o.s (by have:=MQ.o.ll;omega) (by have:=MQ.o.ql;omega);unfold LP at cL;replace cL:=ζ cL;go_wp2_with fail;refine cL.out.mono ?_;rintro e w5 ⟨n5,er5,q5,atJ,rfl,hL5,hs5,hq5,hl5,lZ⟩;have PK:=ζ (MQ.o.lay (fb:=fb) (ft:=ft) (p:=p.aU) (e:=x.e) hL5 hs5 hq5 hl5 lZ h1.o rfl);rw[←Zb.o] at PK;clear hR MQ jG hst Zb aa1 cL hL5 hs5 hq5 hl5 lZ;go_wp2;go_roundw
     case rel=>exact⟨k+1,n0,gs,q5,atJ,tA,tk,ts,oA,ok,ls,ω,ν,rfl,rfl,PK⟩
     case measure=>exact ψ
    ·have h1z:(x.k==1)=false:=by simp[h1]
     by_cases h2:x.k=2
     ·have h2z:(x.k==2)=true:=by simp[h2]
      replace h2:=ζ h2;by_cases hm:AP fb p.aU rec ⟨n0,dJ gs⟩ x.now=0
      ·have cT:=ζ (av2.out _ ge b (k*3456) gq bq last n0 x.now gs q tA tk ts MQ.o.g MQ.o.tat (fun W' yg=>(MQ.o.told.OW MQ.o.CG δ yg).uN abf) MQ.o.VY MQ.o.ne (by have:=MQ.o.ql;omega) MQ.o.CG ω hts hm);go_wp2_with fail;refine cT.out.mono ?_;rintro e w5 hP5;obtain⟨A2,cc2,UO,Ru,rfl,nI,hL2,hl2,amA,hR5⟩:=MQ.o.step hm hP5 hts;have hYA:=ζ (nI.uN ajk);have XL:=ζ hR5.g.size;have hev:=ζ (Yp (fb:=fb) (ft:=ft) (p:=p.aU) (rec:=rec) (e:=x.e) (show x.e.k=2 from h2.o) hst.o);have aoi:=ζ (show ls.length+UO.length≤Xu (k+1) by have h1:=MQ.o.ol;have h2:=yK k;omega);replace hR5:=ζ hR5;replace hL2:=ζ hL2;replace amA:=ζ amA;have aEF:=ζ hl2;clear hP5 nI cT hR MQ jG hm p0 p1 p2 p3 p4 p5 pz c0 c1 c2 c3 c4 c5 c6 c7 c8 c9 c10 c11 c12;go_wp2_with (at_builtin;go_loud (refine f_ arh rfl (.tmp 53) (.tmp 54) rfl hR5.o.out rfl rfl hYA.o ajk aip XL.o (by unfold maxLen;have:=SS.o;omega) (by have:=SS.o;omega) (fun v7 w7 rG hgr qQ=> ?_);(obtain⟨A7,k7,rfl,-,-,-⟩:=rG.arr ajk);(have PK:=ζ (hR5.o.push rG hgr hL2.o (by rw[List.length_append];exact aoi.o) amA.o));clear rG hgr qQ));have e7:T (k+1)=eU fb ft p.aU rec (T k) x.e:=Zb.o;rw[hev.o] at e7;rw[show (⟨(kE fb ft p.aU rec ⟨n0,dJ gs⟩ (ts.map (·.a)) (bF q last) x.now).1,(T k).told,(T k).q,(T k).out++(kE fb ft p.aU rec ⟨n0,dJ gs⟩ (ts.map (·.a)) (bF q last) x.now).2⟩:VSt)=T (k+1) from e7.symm] at PK;clear e7 hev Zb hst hR5 hL2 amA hYA XL aoi aa1;go_roundw
       case rel=>exact⟨k+1,x.now,Ru,q,last,tA,tk,ts,A7,k7,ls++UO,ω,ν,rfl,by simp,PK⟩
       case measure=>exact ψ
      ·have cT:=cNo.out _ ge b n0 x.now (dJ gs) (.slice tA ts.length tk) (.pointer (some ⟨gq,0,none⟩)) MQ.o.g MQ.o.CG.blk hm;have Q_:AP fb p.aU rec (T k).CG x.e.now≠0:=by rw[hst.o];exact hm
       generalize AP fb p.aU rec ⟨n0,dJ gs⟩ x.now=M at *
       have hMz:(M==0)=false:=by simpa using hm
       replace cT:=ζ cT;replace Q_:=ζ Q_;go_wp2_with fail;refine cT.out.mono ?_;rintro e w5 ⟨rfl,fM⟩;have PK:=ζ (MQ.o.no (fb:=fb) (ft:=ft) (p:=p.aU) (e:=x.e) fM h2.o Q_.o);rw[←Zb.o] at PK;clear hR MQ jG hst Zb aa1 cT fM Q_;go_wp2;go_roundw
       case rel=>exact⟨k+1,n0,gs,q,last,tA,tk,ts,oA,ok,ls,ω,ν,rfl,rfl,PK⟩
       case measure=>exact ψ
     ·have h2z:(x.k==2)=false:=by simp[h2]
      have PK:=ζ (hR.o.none_ (fb:=fb) (ft:=ft) (p:=p.aU) (e:=x.e) jG.o h0 h1 h2);rw[←Zb.o] at PK;clear hR MQ jG hst Zb aa1;go_wp2;go_roundw
      case rel=>exact⟨k+1,n0,gs,q,last,tA,tk,ts,oA,ok,ls,ω,ν,rfl,rfl,PK⟩
      case measure=>exact ψ
  ·obtain rfl:k=lm:=ω;have aQ:Hid (Pq w (T k).out (.returned (.slice oA ls.length ok)) wr):=ζ ⟨oA,ok,ls,rfl,hR.o.out.uN ajk,hR.o.outs,by rw[hR.o.st],by have h1:=hR.o.ol;have h2:=Xt (k:=k) ω;omega,hR.o.g⟩;clear hR I5;go_wp2;go_ret;exact aQ.o
end Go.Proofs.YtbhikkgpcmkonaaGreatDoor
