/- Parts: ViwG VLiA VLiv VFewA VFew -/
import Derived.Test.YtbhikkgpcmkonaaGreatDoorVo0
import Derived.Test.YtbhikkgpcmkonaaGreatDoorVo26
import Derived.Test.YtbhikkgpcmkonaaGreatDoorVo13
set_option maxRecDepth 100000
set_option maxHeartbeats 12800000
namespace Go.Proofs.YtbhikkgpcmkonaaGreatDoor
open Go.RowKit Go.Maps Go.WideMaps
def Qq (w:World) (L:List N_) (e:Ending) (w':World):Prop:=
 ∃(A:Option Addr) (c:Nat) (ls:List fO),e =.returned (.slice A ls.length c)∧bW w' 6 kE A ls.length ls∧(∀x∈ls,dH w' w.heap.size x)∧ls.map (·.xM)=L∧ls.length≤400000∧ah w w'
theorem xB {fb:cu→Bool} {ft:List bM→cu→Bool} {p:bQ} {rec:List UInt8} {lA:Option Addr} {lm lk:Nat} {xs:List g_} (w:World) (he:oJ w) (hu:oI w) (hp:p.At w) (Pm:∀y,mX fb y) (Sj:∀y,lV ft y) (hX:zJ w lA lm xs) (Jz:lm≤50) (htl:gG (xs.map (·.e))≤12) :
 Calls Tryz.prog 35 #[p.val,.string ⟨rec.toArray⟩,.slice lA lm lk] w (Qq w (h_ fb ft p.aU rec (xs.map (·.e)))):=by
 have kN:=hX.arr.1;have hFb:lW fb p:=⟨fun _ _ y _=>Pm y,fun _ _=>⟨fun y _=>Pm y,fun y _=>Pm y⟩⟩;have hFt:Js ft p:=fun _ _ y _=>Sj y
 have hFi:Qs ft p:=fun _ _=>⟨fun y _=>Sj y,fun y _=>Sj y⟩
 have f_:=ζ (fun k (x:g_) (h:xs[k]? = some x)=>XY (fb:=fb) (ft:=ft) (p:=p.aU) (rec:=rec) h);have ava:=ζ (fun k=>show (jX fb ft p.aU rec ((xs.take k).map (·.e))).told.length≤12 by
  have h1:=XI (fb:=fb) (ft:=ft) (p:=p.aU) (rec:=rec) ((xs.take k).map (·.e)) aek;have h2:=aam (xs:=xs) (k:=k);have h3:aek.told.length=0:=rfl;unfold jX;omega)
 have aN:h_ fb ft p.aU rec (xs.map (·.e))=(jX fb ft p.aU rec ((xs.take lm).map (·.e))).out:=by rw[List.take_of_length_le ω];rfl
 have Nq:jX fb ft p.aU rec ((xs.take 0).map (·.e))=aek:=rfl;rw[aN];clear aN;generalize hT:(fun k=>jX fb ft p.aU rec ((xs.take k).map (·.e)))=T at *
 have hTk:∀k,jX fb ft p.aU rec ((xs.take k).map (·.e))=T k:=fun k=>by rw[←hT]
 simp only[hTk] at *
 clear hT hTk;have axh:=ζ (fun (W:World) (ge b B gq bq last:Nat) (n0 now:Int) (gs:List GX) (q:QX) (tA:Option Addr) (tk:Nat) (ts:List dD) (hW:ah w W) (hat:∀x∈ts,x.At w) hA hL hne Xk hE hB aAA hm=>acD (fb:=fb) (ft:=ft) (p:=p) (base:=w.heap.size) (bl:=w.heap.size) (ge:=ge) (b:=b) (B:=B) (gq:=gq) (bq:=bq) (last:=last) (rec:=rec) (n0:=n0) (now:=now) (gs:=gs) (lA:=tA) (lm:=ts.length) (lk:=tk) (xs:=ts) (q:=q) w W hW (Nat.le_refl _) he hu hp hat hA hL hne hFb hFt hFi (UZ hp (abv hm).2.2.2).1 (UZ hp (abv hm).2.2.2).2 (fun _ _ y _=>Sj y) Xk hE hW.size hB aAA hm);have cNo:=ζ (fun (W:World) (ge b:Nat) (n0 now:Int) (gs:List (List UInt8×A_)) (lv sv:Value) (hW:ah w W) hB hm=>akZ (fb:=fb) (p:=p) (rec:=rec) (st:=⟨n0,gs⟩) (now:=now) (ge:=ge) (b:=b) (lv:=lv) (sv:=sv) W (hp.keep hW) hFb hB hm);have aCl:=ζ (fun (W:World) (gq bq last:Nat) (q:QX) (x:yG) hL (hW:ah w W) (hx:x.At w) hl hq=>am5 (fb:=fb) (base:=w.heap.size) (g:=gq) (b:=bq) (last:=last) (q:=q) (x:=x) W hL hW.size (hx.keep hW) (fun y _=>Pm y) hl hq);have axi:=ζ (fun W=>ak6 rec W);have cQ:=ζ (fun W=>aeD W w.heap.size);have hXh:=ζ hX;have hb0:=aG.new w 50 #[.slice p.s.A p.s.m p.s.k,.slice p.r.A p.r.m p.r.k,.slice p.e.A p.e.m p.e.k,.slice p.a.A p.a.m p.a.k,.slice p.oA p.om p.ok,.slice p.iA p.im p.ik];have hg0:ah w (w.alloc (.cells #[.slice p.s.A p.s.m p.s.k,.slice p.r.A p.r.m p.r.k,.slice p.e.A p.e.m p.e.k,.slice p.a.A p.a.m p.a.k,.slice p.oA p.om p.ok,.slice p.iA p.im p.ik] 50)):=(ah.refl w).alloc _;unfold bQ.val at *
 clear he hu hp Pm Sj hX hFb hFt hFi htl;replace hb0:=ζ hb0;replace hg0:=ζ hg0;go_enter Tryz.func35,Tryz.ntmps35
 go_wp2_with fail;refine (axi.out _).mono ?_;rintro e w1 ⟨ge,b,rfl,hEb,hM,qE,hbb,hb1⟩;have aro:w.heap.size≤ge∧w.heap.size≤b:=by
  have:=hg0.o.size;exact⟨ω,ω⟩
 have JG:=agH (base:=w.heap.size) hEb hM aro.1 aro.2;have hbl:=hM.lt;have hg1:=ζ (hg0.o.trans hb1);replace hb0:=ζ (hb0.o.grows hb1);replace JG:=ζ JG;clear hg0 hb1 hEb hM qE hbb axi aro;go_wp2_with fail;refine (cQ.out w1).mono ?_;rintro e w2 ⟨gq,bq,rfl,hL2,hgq,hbq,hgb,hb2⟩;have V3:=hg1.o.size;have I5:Hid (jR w w2 rec ge b gq bq w.heap.size 0 #[.slice p.s.A p.s.m p.s.k,.slice p.r.A p.r.m p.r.k,.slice p.e.A p.e.m p.e.k,.slice p.a.A p.a.m p.a.k,.slice p.oA p.om p.ok,.slice p.iA p.im p.ik] (-1) [] [] 0 none 0 [] none 0 [] (T 0)):=
  ζ ⟨(JG.o.grows hb2).more ω,hL2,ω,ω,ω,hb0.o.grows hb2,Own.iO _ _ _ _ _,fun x hx=>(List.not_mem_nil hx).elim,Own.iO _ _ _ _ _,fun x hx=>(List.not_mem_nil hx).elim,hg1.o.trans hb2,Nat.zero_le _,Nat.zero_le _,Nat.zero_le _,by rw[Nq];rfl⟩
 clear hg1 hb0 JG hbl hL2 hgq hbq hgb hb2 V3 cQ Nq;go_wp2;go_loopw [9,10,20] (fun t o i wr=>∃(k:Nat) (n0:Int) (gs:List GX) (q:QX) (last:Nat) (tA:Option Addr) (tk:Nat) (ts:List dD) (oA:Option Addr) (ok:Nat) (ls:List fO),k≤lm∧i =.int .i64 (k:Int)∧t =.slice tA ts.length tk∧o =.slice oA ls.length ok∧Hid (jR w wr rec ge b gq bq w.heap.size k #[.slice p.s.A p.s.m p.s.k,.slice p.r.A p.r.m p.r.k,.slice p.e.A p.e.m p.e.k,.slice p.a.A p.a.m p.a.k,.slice p.oA p.om p.ok,.slice p.iA p.im p.ik] n0 gs q last tA tk ts oA ok ls (T k))) (fun _ _ i _=>lm-(intOf i).toNat)
 case atStart=>exact⟨0,_,[],[],0,none,0,[],none,0,[],ω,rfl,rfl,rfl,I5⟩
 case round=>
  obtain⟨k,n0,gs,q,last,tA,tk,ts,oA,ok,ls,hk,rfl,rfl,rfl,hR⟩:=hrel;by_cases qC:k<lm
  ·obtain⟨bb,off,x,rfl,CW,hx,hcell⟩:=(hXh.o.arr.keep hR.o.g).at_ qC;have c0:wr.cell? ⟨bb,off+k*13,none⟩=some (.int .i64 x.k):=hcell 0 _ rfl;have c1:wr.cell? ⟨bb,off+k*13+1,none⟩=some (.string ⟨x.a.a.src.toArray⟩):=hcell 1 _ rfl;have c2:wr.cell? ⟨bb,off+k*13+2,none⟩=some (.slice x.a.A x.a.m x.a.k):=hcell 2 _ rfl;have c3:wr.cell? ⟨bb,off+k*13+3,none⟩=some (.int .i64 x.a.a.l.lv):=hcell 3 _ rfl;have c4:wr.cell? ⟨bb,off+k*13+4,none⟩=some (.int .u32 (x.a.a.l.c:Int)):=hcell 4 _ rfl;have c5:wr.cell? ⟨bb,off+k*13+5,none⟩=some (.int .i64 x.a.a.f):=hcell 5 _ rfl;have c6:wr.cell? ⟨bb,off+k*13+6,none⟩=some (.int .i64 x.a.a.t):=hcell 6 _ rfl;have c7:wr.cell? ⟨bb,off+k*13+7,none⟩=some (.slice x.s.A x.s.m x.s.k):=hcell 7 _ rfl;have c8:wr.cell? ⟨bb,off+k*13+8,none⟩=some (.int .i64 x.s.s.f):=hcell 8 _ rfl;have c9:wr.cell? ⟨bb,off+k*13+9,none⟩=some (.int .i64 x.s.s.t):=hcell 9 _ rfl;have c10:wr.cell? ⟨bb,off+k*13+10,none⟩=some (.int .i64 x.s.s.l.lv):=hcell 10 _ rfl;have c11:wr.cell? ⟨bb,off+k*13+11,none⟩=some (.int .u32 (x.s.s.l.c:Int)):=hcell 11 _ rfl;have c12:wr.cell? ⟨bb,off+k*13+12,none⟩=some (.int .i64 x.now):=hcell 12 _ rfl;have kX:(k:Int)<(lm:Int):=ω;have wL:=List.mem_of_getElem? hx;have abM:=ζ (hXh.o.at_ x wL);have ZV:=ζ (f_.o k x hx);have hts:ts.length≤12:=by
    have h1:=ava.o k;rw[hR.o.st] at h1;simpa using h1
   have hst:=ζ hR.o.st;have VZ:=hR.o.g.size;have Uj:=ζ (show ls.length≤400000 by have h1:=hR.o.ol;have h2:=Ye (k:=k) ω;omega);have jL:ah wr (wr.alloc (.cells #[.int .i64 x.k,.string ⟨x.a.a.src.toArray⟩,.slice x.a.A x.a.m x.a.k,.int .i64 x.a.a.l.lv,.int .u32 (x.a.a.l.c:Int),.int .i64 x.a.a.f,.int .i64 x.a.a.t,.slice x.s.A x.s.m x.s.k,.int .i64 x.s.s.f,.int .i64 x.s.s.t,.int .i64 x.s.s.l.lv,.int .u32 (x.s.s.l.c:Int),.int .i64 x.now] 166)):=(ah.refl wr).alloc _;have NR:=ζ (hR.o.grows jL);have pB:=hR.o.aU;have p0:=pB.cell 0;have p1:=pB.cell 1;have p2:=pB.cell 2;have p3:=pB.cell 3;have p4:=pB.cell 4;have p5:=pB.cell 5;have pz:=pB.lt;simp only[List.getElem?_toArray,List.getElem?_cons_zero,List.getElem?_cons_succ] at p0 p1 p2 p3 p4 p5;replace jL:=ζ jL;clear pB hcell hx wL I5;by_cases h0:x.k=0
   ·have h0z:(x.k==0)=true:=by simp[h0]
    have hgb:=ζ ((ah.refl (wr.alloc (.cells #[.int .i64 x.k,.string ⟨x.a.a.src.toArray⟩,.slice x.a.A x.a.m x.a.k,.int .i64 x.a.a.l.lv,.int .u32 (x.a.a.l.c:Int),.int .i64 x.a.a.f,.int .i64 x.a.a.t,.slice x.s.A x.s.m x.s.k,.int .i64 x.s.s.f,.int .i64 x.s.s.t,.int .i64 x.s.s.l.lv,.int .u32 (x.s.s.l.c:Int),.int .i64 x.now] 166))).alloc (.cells #[.string ⟨x.a.a.src.toArray⟩,.slice x.a.A x.a.m x.a.k,.int .i64 x.a.a.l.lv,.int .u32 (x.a.a.l.c:Int),.int .i64 x.a.a.f,.int .i64 x.a.a.t] 57));have hRb:=ζ (NR.o.grows hgb.o);replace h0:=ζ h0;go_wp2_with (at_builtin;go_loud (refine dB (x:=x.a) apR rfl (.tmp 28) (.tmp 31) rfl hRb.o.told rfl ⟨wr.heap.size+1,0,none⟩ rfl rfl (iK (by exact aG.kV wr _ _ _)) (ao1 x.a) (by simp;omega) (by unfold maxLen;omega) ω (fun v7 w7 rH hgr qU=> ?_);(obtain⟨g7,k7,rfl⟩:=mg rH σ);(have Qy:=ζ (hRb.o.tell (fb:=fb) (ft:=ft) (p:=p.aU) (e:=x.e) abM.o.a rH hgr h0.o rfl));clear rH hgr qU));rw[←ZV.o] at Qy;clear hR NR hRb jL hgb hst ZV abM;go_roundw
    case rel=>exact⟨k+1,n0,gs,q,last,_,k7,ts++[x.a],oA,ok,ls,ω,ν,by simp,rfl,Qy⟩
    case measure=>exact ψ
   ·have h0z:(x.k==0)=false:=by simp[h0]
    by_cases h1:x.k=1
    ·have h1z:(x.k==1)=true:=by simp[h1]
     replace h1:=ζ h1;have cL:=aCl.out _ gq bq last q x.s NR.o.Xh NR.o.g abM.o.s (by have:=NR.o.ll;omega) (by have:=NR.o.ql;omega);unfold MZ at cL;replace cL:=ζ cL;go_wp2_with fail;refine cL.out.mono ?_;rintro e w5 ⟨n5,er5,q5,auY,rfl,hL5,hs5,hq5,hl5,mJ⟩;have Qy:=ζ (NR.o.lay (fb:=fb) (ft:=ft) (p:=p.aU) (e:=x.e) hL5 hs5 hq5 hl5 mJ h1.o rfl);rw[←ZV.o] at Qy;clear hR NR jL hst ZV abM cL hL5 hs5 hq5 hl5 mJ;go_wp2;go_roundw
     case rel=>exact⟨k+1,n0,gs,q5,auY,tA,tk,ts,oA,ok,ls,ω,ν,rfl,rfl,Qy⟩
     case measure=>exact ψ
    ·have h1z:(x.k==1)=false:=by simp[h1]
     by_cases h2:x.k=2
     ·have h2z:(x.k==2)=true:=by simp[h2]
      replace h2:=ζ h2;by_cases hm:yZ fb p.aU rec ⟨n0,dK gs⟩ x.now=0
      ·have cT:=ζ (axh.out _ ge b (k*3456) gq bq last n0 x.now gs q tA tk ts NR.o.g NR.o.tat (fun W' yI=>(NR.o.told.P5 NR.o.Dj δ yI).uU abZ) NR.o.Xh NR.o.ne (by have:=NR.o.ql;omega) NR.o.Dj ω hts hm);go_wp2_with fail;refine cT.out.mono ?_;rintro e w5 hP5;obtain⟨A2,cc2,VI,S_,rfl,nM,hL2,hl2,anz,hR5⟩:=NR.o.step hm hP5 hts;have hYA:=ζ (nM.uU aj9);have Yx:=ζ hR5.g.size;have hev:=ζ (Y6 (fb:=fb) (ft:=ft) (p:=p.aU) (rec:=rec) (e:=x.e) (show x.e.k=2 from h2.o) hst.o);have apf:=ζ (show ls.length+VI.length≤Yf (k+1) by have h1:=NR.o.ol;have h2:=zh k;omega);replace hR5:=ζ hR5;replace hL2:=ζ hL2;replace anz:=ζ anz;have aF4:=ζ hl2;clear hP5 nM cT hR NR jL hm p0 p1 p2 p3 p4 p5 pz c0 c1 c2 c3 c4 c5 c6 c7 c8 c9 c10 c11 c12;go_wp2_with (at_builtin;go_loud (refine gU asy rfl (.tmp 53) (.tmp 54) rfl hR5.o.out rfl rfl hYA.o aj9 aja Yx.o (by unfold maxLen;have:=Uj.o;omega) (by have:=Uj.o;omega) (fun v7 w7 rH hgr qU=> ?_);(obtain⟨A7,k7,rfl,-,-,-⟩:=rH.arr aj9);(have Qy:=ζ (hR5.o.push rH hgr hL2.o (by rw[List.length_append];exact apf.o) anz.o));clear rH hgr qU));have e7:T (k+1)=eH fb ft p.aU rec (T k) x.e:=ZV.o;rw[hev.o] at e7;rw[show (⟨(jO fb ft p.aU rec ⟨n0,dK gs⟩ (ts.map (·.a)) (bJ q last) x.now).1,(T k).told,(T k).q,(T k).out++(jO fb ft p.aU rec ⟨n0,dK gs⟩ (ts.map (·.a)) (bJ q last) x.now).2⟩:VSt)=T (k+1) from e7.symm] at Qy;clear e7 hev ZV hst hR5 hL2 anz hYA Yx apf abM;go_roundw
       case rel=>exact⟨k+1,x.now,S_,q,last,tA,tk,ts,A7,k7,ls++VI,ω,ν,rfl,by simp,Qy⟩
       case measure=>exact ψ
      ·have cT:=cNo.out _ ge b n0 x.now (dK gs) (.slice tA ts.length tk) (.pointer (some ⟨gq,0,none⟩)) NR.o.g NR.o.Dj.blk hm;have SB:yZ fb p.aU rec (T k).Dj x.e.now≠0:=by rw[hst.o];exact hm
       generalize yZ fb p.aU rec ⟨n0,dK gs⟩ x.now=M at *
       have hMz:(M==0)=false:=by simpa using hm
       replace cT:=ζ cT;replace SB:=ζ SB;go_wp2_with fail;refine cT.out.mono ?_;rintro e w5 ⟨rfl,fK⟩;have Qy:=ζ (NR.o.no (fb:=fb) (ft:=ft) (p:=p.aU) (e:=x.e) fK h2.o SB.o);rw[←ZV.o] at Qy;clear hR NR jL hst ZV abM cT fK SB;go_wp2;go_roundw
       case rel=>exact⟨k+1,n0,gs,q,last,tA,tk,ts,oA,ok,ls,ω,ν,rfl,rfl,Qy⟩
       case measure=>exact ψ
     ·have h2z:(x.k==2)=false:=by simp[h2]
      have Qy:=ζ (hR.o.none_ (fb:=fb) (ft:=ft) (p:=p.aU) (e:=x.e) jL.o h0 h1 h2);rw[←ZV.o] at Qy;clear hR NR jL hst ZV abM;go_wp2;go_roundw
      case rel=>exact⟨k+1,n0,gs,q,last,tA,tk,ts,oA,ok,ls,ω,ν,rfl,rfl,Qy⟩
      case measure=>exact ψ
  ·obtain rfl:k=lm:=ω;have aN:Hid (Qq w (T k).out (.returned (.slice oA ls.length ok)) wr):=ζ ⟨oA,ok,ls,rfl,hR.o.out.uU aj9,hR.o.outs,by rw[hR.o.st],by have h1:=hR.o.ol;have h2:=Ye (k:=k) ω;omega,hR.o.g⟩;clear hR I5;go_wp2;go_ret;exact aN.o
def vl1 (w:World):World:=w.alloc (.cells #[.string ⟨dI.toArray⟩,.int .i64 3,.int .u32 0] 41)
def vl2 (w:World):World:=(vl1 w).alloc (.cells #[.string ⟨dI.toArray⟩,.slice none 0 0,.int .i64 0,.int .i64 1,.int .i64 9,.slice none 0 0] 46)
def vl3 (w:World):World:=(vl2 w).alloc (.cells #[.slice none 0 0,.slice (some ⟨w.heap.size,0,none⟩) 1 1,.slice none 0 0,.slice none 0 0,.slice (some ⟨w.heap.size+1,0,none⟩) 1 1,.slice none 0 0] 50)
def vl4 (w:World):World:=(vl3 w).alloc (.cells #[.string ⟨Ob.toArray⟩,.string ⟨#[116]⟩] 88)
def vl5 (w:World):World:=(vl4 w).alloc (.cells #[.string ⟨Tq.toArray⟩,.slice (some ⟨w.heap.size+1+1+1,0,none⟩) 1 1,.int .i64 0,.int .u32 0,.int .i64 0,.int .i64 0] 57)
def vl6 (w:World):World:=(vl5 w).alloc (.cells #[.string ⟨Tq.toArray⟩,.slice (some ⟨w.heap.size+1+1+1,0,none⟩) 1 1,.int .i64 5,.int .u32 0,.int .i64 0,.int .i64 0] 57)
theorem xC (w:World):(vl1 w).heap.size=w.heap.size+1∧(vl2 w).heap.size=w.heap.size+1+1∧(vl3 w).heap.size=w.heap.size+1+1+1∧(vl4 w).heap.size=w.heap.size+1+1+1+1∧(vl5 w).heap.size=w.heap.size+1+1+1+1+1∧(vl6 w).heap.size=w.heap.size+1+1+1+1+1+1:=by
 simp[vl1,vl2,vl3,vl4,vl5,vl6]
theorem atO (w:World):ah (vl1 w) (vl6 w):=(((((ah.refl _).alloc _).alloc _).alloc _).alloc _).alloc _
theorem atT (w:World):aG (vl6 w) (w.heap.size) 41 #[.string ⟨dI.toArray⟩,.int .i64 3,.int .u32 0]:=by
 exact (aG.new w _ _).grows (atO w)
theorem atN (w:World):ah (vl2 w) (vl6 w):=((((ah.refl _).alloc _).alloc _).alloc _).alloc _
theorem atS (w:World):aG (vl6 w) (w.heap.size+1) 46 #[.string ⟨dI.toArray⟩,.slice none 0 0,.int .i64 0,.int .i64 1,.int .i64 9,.slice none 0 0]:=by
 have h:=aG.new (vl1 w) 46 #[.string ⟨dI.toArray⟩,.slice none 0 0,.int .i64 0,.int .i64 1,.int .i64 9,.slice none 0 0];rw[show (vl1 w).heap.size=w.heap.size+1 by have:=xC w;exact this.1] at h;exact h.grows (atN w)
theorem atM (w:World):ah (vl3 w) (vl6 w):=(((ah.refl _).alloc _).alloc _).alloc _
theorem atQ (w:World):aG (vl6 w) (w.heap.size+1+1) 50 #[.slice none 0 0,.slice (some ⟨w.heap.size,0,none⟩) 1 1,.slice none 0 0,.slice none 0 0,.slice (some ⟨w.heap.size+1,0,none⟩) 1 1,.slice none 0 0]:=by
 have h:=aG.new (vl2 w) 50 #[.slice none 0 0,.slice (some ⟨w.heap.size,0,none⟩) 1 1,.slice none 0 0,.slice none 0 0,.slice (some ⟨w.heap.size+1,0,none⟩) 1 1,.slice none 0 0];rw[show (vl2 w).heap.size=w.heap.size+1+1 by have:=xC w;exact this.2.1] at h;exact h.grows (atM w)
theorem atL (w:World):ah (vl4 w) (vl6 w):=((ah.refl _).alloc _).alloc _
theorem atP (w:World):aG (vl6 w) (w.heap.size+1+1+1) 88 #[.string ⟨Ob.toArray⟩,.string ⟨#[116]⟩]:=by
 have h:=aG.new (vl3 w) 88 #[.string ⟨Ob.toArray⟩,.string ⟨#[116]⟩];rw[show (vl3 w).heap.size=w.heap.size+1+1+1 by have:=xC w;exact this.2.2.1] at h;exact h.grows (atL w)
def zAX (w:World):dD:=⟨yh,some ⟨w.heap.size+1+1+1,0,none⟩,1,1⟩
def zBX (w:World):dD:=⟨zAl,some ⟨w.heap.size+1+1+1,0,none⟩,1,1⟩
def Xt (w:World):g_:=⟨0,zAX w,Na,0⟩
def zE2 (w:World):g_:=⟨0,zBX w,Na,0⟩
def Xr:g_:=⟨2,RS,Na,1⟩
def vl7 (w:World):World:=vl6 w
def vl8 (w:World):World:=(vl7 w).alloc (.cells #[.int .i64 0,.string ⟨Tq.toArray⟩,.slice (some ⟨w.heap.size+1+1+1,0,none⟩) 1 1,.int .i64 0,.int .u32 0,.int .i64 0,.int .i64 0,.slice none 0 0,.int .i64 0,.int .i64 0,.int .i64 0,.int .u32 0,.int .i64 0,.int .i64 2,.string ⟨#[]⟩,.slice none 0 0,.int .i64 0,.int .u32 0,.int .i64 0,.int .i64 0,.slice none 0 0,.int .i64 0,.int .i64 0,.int .i64 0,.int .u32 0,.int .i64 1] 166)
def Va (w:World):World:=(vl8 w).alloc (.cells #[.int .i64 0,.string ⟨Tq.toArray⟩,.slice (some ⟨w.heap.size+1+1+1,0,none⟩) 1 1,.int .i64 0,.int .u32 0,.int .i64 0,.int .i64 0,.slice none 0 0,.int .i64 0,.int .i64 0,.int .i64 0,.int .u32 0,.int .i64 0,.int .i64 0,.string ⟨Tq.toArray⟩,.slice (some ⟨w.heap.size+1+1+1,0,none⟩) 1 1,.int .i64 5,.int .u32 0,.int .i64 0,.int .i64 0,.slice none 0 0,.int .i64 0,.int .i64 0,.int .i64 0,.int .u32 0,.int .i64 0,.int .i64 2,.string ⟨#[]⟩,.slice none 0 0,.int .i64 0,.int .u32 0,.int .i64 0,.int .i64 0,.slice none 0 0,.int .i64 0,.int .i64 0,.int .i64 0,.int .u32 0,.int .i64 1] 166)
theorem Xz (w:World):(vl7 w).heap.size=w.heap.size+1+1+1+1+1+1:=by
 simp[vl7,(xC w).2.2.2.2.2]
theorem ahV (w:World):(vl8 w).heap.size=w.heap.size+1+1+1+1+1+1+1:=by
 simp[vl8,Xz]
theorem aoX (w:World):ah (vl5 w) (Va w):=by
 have h6:ah (vl5 w) (vl6 w):=(ah.refl _).alloc _;exact (h6.alloc _).alloc _
theorem Io (w:World):ah w (Va w):=(((((ah.refl w).alloc _).alloc _).alloc _).alloc _ |>.alloc _).trans (aoX w)
theorem aoA {w:World} {g:Nat} {t:TypeId} {cs:Array Value} (h:aG (vl6 w) g t cs) (hl:g < (vl5 w).heap.size):aG (Va w) g t cs:=by
 have h5:aG (vl5 w) g t cs:=by
  unfold aG at *
  rw[←h];exact (ah.alloc (ah.refl (vl5 w)) _:ah (vl5 w) (vl6 w)).below.block g hl |>.symm
 exact h5.grows (aoX w)
def ng (w:World):bQ where
 s:=⟨[],none,0,0⟩
 r:=⟨[⟨dI,⟨3,0⟩⟩],some ⟨w.heap.size,0,none⟩,1,1⟩
 e:=⟨[],none,0,0⟩
 a:=⟨[],none,0,0⟩
 o:=[⟨⟨dI,[],0,1,9,[]⟩,none,0,0,none,0,0⟩]
 oA:=some ⟨w.heap.size+1,0,none⟩
 om:=1
 ok:=1
 i:=[]
 iA:=none
 im:=0
 ik:=0
theorem vb1 (w:World):aG (Va w) (w.heap.size) 41 #[.string ⟨dI.toArray⟩,.int .i64 3,.int .u32 0]:=aoA (atT w) (by rw[(xC w).2.2.2.2.1];omega)
theorem vb2 (w:World):aG (Va w) (w.heap.size+1) 46 #[.string ⟨dI.toArray⟩,.slice none 0 0,.int .i64 0,.int .i64 1,.int .i64 9,.slice none 0 0]:=aoA (atS w) (by rw[(xC w).2.2.2.2.1];omega)
theorem vb3 (w:World):aG (Va w) (w.heap.size+1+1) 50 #[.slice none 0 0,.slice (some ⟨w.heap.size,0,none⟩) 1 1,.slice none 0 0,.slice none 0 0,.slice (some ⟨w.heap.size+1,0,none⟩) 1 1,.slice none 0 0]:=aoA (atQ w) (by rw[(xC w).2.2.2.2.1];omega)
theorem vb4 (w:World):aG (Va w) (w.heap.size+1+1+1) 88 #[.string ⟨Ob.toArray⟩,.string ⟨#[116]⟩]:=aoA (atP w) (by rw[(xC w).2.2.2.2.1];omega)
theorem H_ (w:World):(ng w).At (Va w) where
 s:=abf _
 r:=⟨by have h:=bW.J7 (enc:=Y9) (l:=[(⟨dI,⟨3,0⟩⟩:zN)]) hkN (vb1 w) rfl;exact h,by simp[ng],by intro y hy;simp only[ng,List.mem_singleton] at hy;subst hy;exact (by decide:(0:Nat)<4294967296),by intro y hy;simp only[ng,List.mem_singleton] at hy;subst hy;decide⟩
 e:=abf _
 a:=abf _
 o:=by have h:=bW.J7 (enc:=encR) (l:=[(⟨⟨dI,[],0,1,9,[]⟩,none,0,0,none,0,0⟩:BH)]) hkR (vb2 w) rfl;exact h
 ole:=by simp[ng]
 oAt:=by
  intro y hy;simp only[ng,List.mem_singleton] at hy;subst hy;exact⟨bW.iO,by simp,by simp,bW.iO,by simp⟩
 i:=bW.iO
 ile:=by simp[ng]
 iAt:=by intro y hy;simp[ng] at hy
theorem aoV (w:World):(zAX w).At (Va w):=⟨by have h:=bW.J7 (enc:=dZ) (l:=[(⟨Ob,[116]⟩:bM)]) JB (vb4 w) rfl;exact h,by simp[zAX],(by decide:(0:Nat)<4294967296)⟩
theorem atJ (w:World):(zBX w).At (Va w):=⟨by have h:=bW.J7 (enc:=dZ) (l:=[(⟨Ob,[116]⟩:bM)]) JB (vb4 w) rfl;exact h,by simp[zBX],(by decide:(0:Nat)<4294967296)⟩
theorem adn (w:World):RS.At w:=⟨bW.iO,Nat.zero_le _,NM⟩
theorem ahQ (w:World):zJ (Va w) (some ⟨w.heap.size+1+1+1+1+1+1,0,none⟩) 2 [Xt w,Xr]:=by
 have hb:=aG.new (vl7 w) 166 (dh su [Xt w,Xr]).toArray;rw[Xz] at hb;exact⟨bW.J7 (l:=[Xt w,Xr]) hkE (hb.alloc _) rfl,fun y hy=>by
  simp only[List.mem_cons,List.not_mem_nil,or_false] at hy;rcases hy with rfl | rfl
  ·exact⟨aoV w,Af _⟩
  ·exact⟨adn _,Af _⟩,ω⟩
theorem ac3 (w:World):zJ (Va w) (some ⟨w.heap.size+1+1+1+1+1+1+1,0,none⟩) 3 [Xt w,zE2 w,Xr]:=by
 have hb:=aG.new (vl8 w) 166 (dh su [Xt w,zE2 w,Xr]).toArray;rw[ahV] at hb;exact⟨bW.J7 (l:=[Xt w,zE2 w,Xr]) hkE hb rfl,fun y hy=>by
  simp only[List.mem_cons,List.not_mem_nil,or_false] at hy;rcases hy with rfl | rfl | rfl
  ·exact⟨aoV w,Af _⟩
  ·exact⟨atJ w,Af _⟩
  ·exact⟨adn _,Af _⟩,ω⟩
theorem aah {fb:cu→Bool} {ft:List bM→cu→Bool} (Pm:∀y,mX fb y) (Sj:∀y,lV ft y) (w:World) (he:oJ w) (hu:oI w) :
 Calls Tryz.prog 29 #[] w fun e w'=>e =.returned (.bool true)∧ah w w':=by
 have cR1:=ζ (fun W lk (hW:ah (Va w) W)=>xB (fb:=fb) (ft:=ft) (p:=ng w) (rec:=dI) (lk:=lk) W ((he.grows (Io w)).grows hW) ((hu.grows (Io w)).grows hW) ((H_ w).keep hW) Pm Sj ((ahQ w).keep hW) ω (show gG zL≤12 by decide));have cR2:=ζ (fun W lk (hW:ah (Va w) W)=>xB (fb:=fb) (ft:=ft) (p:=ng w) (rec:=dI) (lk:=lk) W ((he.grows (Io w)).grows hW) ((hu.grows (Io w)).grows hW) ((H_ w).keep hW) Pm Sj ((ac3 w).keep hW) ω (show gG zM≤12 by decide));have cA3:=ζ (fun W c c' (hW:ah (Va w) W)=>by
  have h:=Gg (p:=ng w) (tt:=⟨3,0⟩) (c:=c) (c':=c') W ((H_ w).keep hW) (by exact (by decide:(0:Nat)<4294967296)) ((ahQ w).keep hW) ((ac3 w).keep hW);rw[show wC (ng w).aU ([Xt w,Xr].map (·.e)) ([Xt w,zE2 w,Xr].map (·.e)) ⟨3,0⟩=true from ahP] at h;exact h)
 have cA5:=ζ (fun W c c' (hW:ah (Va w) W)=>by
  have h:=Gg (p:=ng w) (tt:=⟨5,0⟩) (c:=c) (c':=c') W ((H_ w).keep hW) (by exact (by decide:(0:Nat)<4294967296)) ((ahQ w).keep hW) ((ac3 w).keep hW);rw[show wC (ng w).aU ([Xt w,Xr].map (·.e)) ([Xt w,zE2 w,Xr].map (·.e)) ⟨5,0⟩=false from ahO] at h;exact h)
 have cC:=ζ (fun W c (hW:ah (Va w) W)=>yO (p:=ng w) (tt:=⟨0,0⟩) (lk:=c) W ((H_ w).keep hW) (by exact (by decide:(0:Nat)<4294967296)) ((ac3 w).keep hW));have hL1:Hid ((h_ fb ft (ng w).aU dI ([Xt w,Xr].map (·.e))).length=1):=ζ (ahL fb ft);have hL2:Hid (h_ fb ft (ng w).aU dI ([Xt w,zE2 w,Xr].map (·.e))=h_ fb ft (ng w).aU dI ([Xt w,Xr].map (·.e))):=ζ (apZ fb ft);have hL3:Hid ((jv (ng w).aU ([Xt w,zE2 w,Xr].map (·.e)) ⟨0,0⟩).length=2):=ζ ap1;generalize h_ fb ft (ng w).aU dI ([Xt w,Xr].map (·.e))=R1 at *
 generalize h_ fb ft (ng w).aU dI ([Xt w,zE2 w,Xr].map (·.e))=R2 at *
 generalize jv (ng w).aU ([Xt w,zE2 w,Xr].map (·.e)) ⟨0,0⟩=C3 at *
 have iP:=ζ (Io w);have bp:=ζ (vb3 w);clear Pm Sj he hu;go_enter Tryz.func29,Tryz.ntmps29
 go_wp2_with fail;change Code.wp _ _ _ _ (Va w)
 generalize Va w = w9 at *
 have p0:=bp.out.cell 0;have p1:=bp.out.cell 1;have p2:=bp.out.cell 2;have p3:=bp.out.cell 3;have p4:=bp.out.cell 4;have p5:=bp.out.cell 5;have pz:=bp.out.lt;simp only[List.getElem?_toArray,List.getElem?_cons_zero,List.getElem?_cons_succ] at p0 p1 p2 p3 p4 p5;have aP:=ζ (ah.refl w9);clear bp;refine aF κ ?_;refine rK (.range 16) 22 ?_;iterate 4 refine ay ?_
 refine aT (.bool true) rfl χ (fun wq dN=> ?_) ?_
 ·obtain⟨lu,kR⟩:=bF dN;go_simp;exact Calls.mono (cA3.out wq _ _ dN) (fun e w'' h=>h)
 go_simp;iterate 5 refine ay ?_
 refine aT (.bool false) rfl χ (fun wq dN=> ?_) ?_
 ·obtain⟨lu,kR⟩:=bF dN;go_simp;exact Calls.mono (cA5.out wq _ _ dN) (fun e w'' h=>h)
 go_simp;iterate 5 refine ay ?_
 refine aB ?_;refine aI [16] κ σ (fun wN hN hS=>(au.cons rfl (fun K' hK=> ?_) au.nil));try replace aP:=ζ (aP.o.trans hN)
 try replace BA:=ζ (BA.o.keep hN)
 try replace Bz:=ζ (Bz.o.keep hN)
 try replace BG:=ζ (fun x hx=>(BG.o x hx).keep hN)
 try replace BF:=ζ (fun x hx=>(BF.o x hx).keep hN)
 clear hN;go_simp;refine (cR1.out _ _ aP.o).mono ?_;rintro e w5 ⟨A16,k16,azA,rfl,aBm,aBB,avF,aAC,fK⟩;have ZR:azA.length=1:=by rw[←hL1.o,←avF,List.length_map]
 rw[ZR];replace aP:=ζ (aP.o.trans fK);refine hK.o _ _ ?_ (fun hS=> ?_)
 ·exact aP.o
 clear aBm aBB avF aAC fK ZR;clear hK hS;refine rK [17,18,19,20,21,22,24,25] 13 ?_;iterate 8 refine ay ?_
 refine aB ?_;refine aI [23] κ σ (fun wN hN hS=>(au.cons rfl (fun K' hK=> ?_) au.nil));try replace aP:=ζ (aP.o.trans hN)
 try replace BA:=ζ (BA.o.keep hN)
 try replace Bz:=ζ (Bz.o.keep hN)
 try replace BG:=ζ (fun x hx=>(BG.o x hx).keep hN)
 try replace BF:=ζ (fun x hx=>(BF.o x hx).keep hN)
 clear hN;go_simp;refine (cR1.out _ _ aP.o).mono ?_;rintro e w5 ⟨A23,k23,azy,rfl,BA,BG,ant,anE,fK⟩;replace BG:=ζ (fun x hx=>(BG x hx).good);replace BA:=ζ BA;replace ant:=ζ ant;replace anE:=ζ anE;replace aP:=ζ (aP.o.trans fK);try replace Bz:=ζ (Bz.o.keep fK)
 try replace BF:=ζ (fun x hx=>(BF.o x hx).keep fK)
 refine hK.o _ _ ?_ (fun hS=> ?_)
 ·exact aP.o
 clear fK;clear hK hS;refine aI [26] κ σ (fun wN hN hS=>(au.cons rfl (fun K' hK=> ?_) au.nil));try replace aP:=ζ (aP.o.trans hN)
 try replace BA:=ζ (BA.o.keep hN)
 try replace Bz:=ζ (Bz.o.keep hN)
 try replace BG:=ζ (fun x hx=>(BG.o x hx).keep hN)
 try replace BF:=ζ (fun x hx=>(BF.o x hx).keep hN)
 clear hN;go_simp;refine (cR2.out _ _ aP.o).mono ?_;rintro e w5 ⟨A26,k26,azx,rfl,Bz,BF,anr,anD,fK⟩;replace BF:=ζ (fun x hx=>(BF x hx).good);replace Bz:=ζ Bz;replace anr:=ζ anr;replace anD:=ζ anD;replace aP:=ζ (aP.o.trans fK);try replace BA:=ζ (BA.o.keep fK)
 try replace BG:=ζ (fun x hx=>(BG.o x hx).keep fK)
 refine hK.o _ _ ?_ (fun hS=> ?_)
 ·exact aP.o
 clear fK;clear hK hS;refine aI [27] κ σ (fun wN hN hS=>(au.cons rfl (fun K' hK=> ?_) au.nil));try replace aP:=ζ (aP.o.trans hN)
 try replace BA:=ζ (BA.o.keep hN)
 try replace Bz:=ζ (Bz.o.keep hN)
 try replace BG:=ζ (fun x hx=>(BG.o x hx).keep hN)
 try replace BF:=ζ (fun x hx=>(BF.o x hx).keep hN)
 clear hN;go_simp;refine (Tz _ BA.o Bz.o (by have:=anE.o;omega) (by have:=anD.o;omega) BG.o BF.o).mono ?_;rintro e w5 ⟨rfl,fK⟩;rw[decide_eq_true (show azy.map (·.xM)=azx.map (·.xM) by rw[ant.o,anr.o,hL2.o])];replace aP:=ζ (aP.o.trans fK);refine hK.o _ _ ?_ (fun hS=> ?_)
 ·exact aP.o
 clear fK BA Bz BG BF ant anr anE anD;clear hK hS;refine rK [28,29,30,31,32] 5 ?_;iterate 5 refine ay ?_
 refine aB ?_;refine aI [33] κ σ (fun wN hN hS=>(au.cons rfl (fun K' hK=> ?_) au.nil));try replace aP:=ζ (aP.o.trans hN)
 try replace BA:=ζ (BA.o.keep hN)
 try replace Bz:=ζ (Bz.o.keep hN)
 try replace BG:=ζ (fun x hx=>(BG.o x hx).keep hN)
 try replace BF:=ζ (fun x hx=>(BF.o x hx).keep hN)
 clear hN;go_simp;refine (cC.out _ _ aP.o).mono ?_;rintro e w5 ⟨A33,m33,c33,aEI,rfl,awX,avE,fK⟩;have hl3:m33=2:=by rw[←awX.arr.1,←hL3.o,←avE,List.length_map]
 rw[hl3];replace aP:=ζ (aP.o.trans fK);refine hK.o _ _ ?_ (fun hS=> ?_)
 ·exact aP.o
 clear fK awX avE hl3;clear hK hS;refine rK [34,35,36,37] 0 ?_;iterate 4 refine ay ?_
 refine aB ?_;refine aH κ (fun wN hN hS=> ?_);try replace aP:=ζ (aP.o.trans hN)
 try replace BA:=ζ (BA.o.keep hN)
 try replace Bz:=ζ (Bz.o.keep hN)
 try replace BG:=ζ (fun x hx=>(BG.o x hx).keep hN)
 try replace BF:=ζ (fun x hx=>(BF.o x hx).keep hN)
 all_goals (
  go_wp2;go_ret;exact⟨rfl,iP.o.trans aP.o⟩)
structure tN where
 id:Int
 x:g_
def uf (y:tN):List Value:=[.int .i64 y.x.k,.string ⟨y.x.a.a.src.toArray⟩,.slice y.x.a.A y.x.a.m y.x.a.k,.int .i64 y.x.a.a.l.lv,.int .u32 (y.x.a.a.l.c:Int),.int .i64 y.x.a.a.f,.int .i64 y.x.a.a.t,.int .i64 y.id,.slice y.x.s.A y.x.s.m y.x.s.k,.int .i64 y.x.s.s.f,.int .i64 y.x.s.s.t,.int .i64 y.x.s.s.l.lv,.int .u32 (y.x.s.s.l.c:Int),.int .i64 y.x.now]
theorem avP (y:tN):(uf y).length=14:=rfl
theorem ao0 (y:tN):∀u∈uf y,u.oneCell'=true:=by
 intro u hu;simp only[uf,List.mem_cons,List.not_mem_nil,or_false] at hu;rcases hu with rfl | rfl | rfl | rfl | rfl | rfl | rfl | rfl | rfl | rfl | rfl | rfl | rfl | rfl <;> rfl
theorem axA:fB Tryz.prog 96 168 14 152:=fB.mk' (z:=.agg #[.int .i64 0,.string ⟨#[]⟩,.slice none 0 0,.int .i64 0,.int .u32 0,.int .i64 0,.int .i64 0,.int .i64 0,.slice none 0 0,.int .i64 0,.int .i64 0,.int .i64 0,.int .u32 0,.int .i64 0]) Tryz.underlying96 κ rfl ω
def yg:Array Value:= #[.string ⟨#[]⟩,.slice none 0 0,.int .i64 0,.int .u32 0,.int .i64 0,.int .i64 0]
def yc:Array Value:= #[.int .i64 0,.slice none 0 0,.int .i64 0,.int .i64 0,.int .i64 0,.int .u32 0]
theorem oK {w:World} {g:Nat} {t:TypeId} {z0 z1 z2 z3 z4 z5:Value} (h:aG w g t #[z0,z1,z2,z3,z4,z5]) :
 w.cell? ⟨g,0,none⟩=some z0∧w.cell? ⟨g,1,none⟩=some z1∧w.cell? ⟨g,2,none⟩=some z2∧w.cell? ⟨g,3,none⟩=some z3∧w.cell? ⟨g,4,none⟩=some z4∧w.cell? ⟨g,5,none⟩=some z5∧(∀i,w.frozen? ⟨g,i,none⟩=false)∧g < w.heap.size:=
 ⟨h.cell 0,h.cell 1,h.cell 2,h.cell 3,h.cell 4,h.cell 5,fun i=>h.frozen i,h.lt⟩
theorem NV {w wM:World} {g:Nat} {t0:TypeId} {z0 z1 z2 z3 z4 z5:Value} (hZ:aG wM g t0 #[z0,z1,z2,z3,z4,z5]) (hG:ah w wM) (qE:w.heap.size≤g) (u0 u1 u2 u3 u4 u5:Value) :
 aG ((((((wM.setCell ⟨g,0,none⟩ u0).setCell ⟨g,1,none⟩ u1).setCell ⟨g,2,none⟩ u2).setCell ⟨g,3,none⟩ u3).setCell ⟨g,4,none⟩ u4).setCell ⟨g,5,none⟩ u5) g t0 #[u0,u1,u2,u3,u4,u5]∧
 ah w ((((((wM.setCell ⟨g,0,none⟩ u0).setCell ⟨g,1,none⟩ u1).setCell ⟨g,2,none⟩ u2).setCell ⟨g,3,none⟩ u3).setCell ⟨g,4,none⟩ u4).setCell ⟨g,5,none⟩ u5)∧
 ∀g' t cs,aG wM g' t cs→g'≠g→aG ((((((wM.setCell ⟨g,0,none⟩ u0).setCell ⟨g,1,none⟩ u1).setCell ⟨g,2,none⟩ u2).setCell ⟨g,3,none⟩ u3).setCell ⟨g,4,none⟩ u4).setCell ⟨g,5,none⟩ u5) g' t cs:=by
 have h0:=hZ.bH 0 u0;have h1:=h0.bH 1 u1;have h2:=h1.bH 2 u2;have h3:=h2.bH 3 u3;have h4:=h3.bH 4 u4;have h5:=h4.bH 5 u5;refine⟨h5.cast σ,?_,fun g' t cs hB hne=>(((((hB.far (p:=⟨g,0,none⟩) hne _).far (p:=⟨g,1,none⟩) hne _).far (p:=⟨g,2,none⟩) hne _).far (p:=⟨g,3,none⟩) hne _).far (p:=⟨g,4,none⟩) hne _).far (p:=⟨g,5,none⟩) hne _⟩;exact ah.setCell (ah.setCell (ah.setCell (ah.setCell (ah.setCell (ah.setCell hG (p:=⟨g,0,none⟩) qE _) (p:=⟨g,1,none⟩) qE _) (p:=⟨g,2,none⟩) qE _) (p:=⟨g,3,none⟩) qE _) (p:=⟨g,4,none⟩) qE _) (p:=⟨g,5,none⟩) qE _
theorem PW {Ol:World} {gx:Nat} {s0:ByteArray} {fA sA:Option Addr} {fm fk sm sk:Nat} {lv f t id sf st slv:Int} {lc slc:Int} {kk nn:Int} {Q0:Exit→Act→World→Prop} {x0 x1 x2 x3 x4 x5 x6 x7 x9 Gf E8 BJ Ii E5 Jw DL H6 HY En Hz Em EZ EY EX DK DJ DI Ej Ei Eh Ef Ee Ed Ec Eb Ea D_ D9 D8 Hy EW EU ET ES ER EP EO EN EM EL EK EJ EI Ih Hw F9 D7 EH EG Ig Ie Ic Hu Ht Hr Hq F8 F7 F6 F5 Ho Hl Hg FZ FY FX FV FQ FP FN FM FK Jv Ju Jt Hf FH EF ED EC Ez Ey JM JL Ib Ia:Value}
 (bX:Hid (aG Ol gx 168 #[.int .i64 kk,.string s0,.slice fA fm fk,.int .i64 lv,.int .u32 lc,.int .i64 f,.int .i64 t,.int .i64 id,.slice sA sm sk,.int .i64 sf,.int .i64 st,.int .i64 slv,.int .u32 slc,.int .i64 nn]))
 (hQ0:∀c a d v w,Q0 (.panic c) (Act.put a d v) w→Q0 (.panic c) a w)
 (oO:∀(u9 u10 u63 u64 u65 u66:Value) (wr:World),(∃(ga gs:Nat),u9=.pointer (some ⟨ga,0,none⟩)∧u10=.pointer (some ⟨gs,0,none⟩)∧Hid (aG wr ga 27 #[.string s0,.slice fA fm fk,.int .i64 lv,.int .u32 lc,.int .i64 f,.int .i64 t])∧Hid (aG wr gs 82 #[.int .i64 id,.slice sA sm sk,.int .i64 sf,.int .i64 st,.int .i64 slv,.int .u32 slc])∧Hid (ah Ol wr))→Q0 .normal ⟨(x0::x1::x2::x3::x4::x5::x6::x7::(.pointer (some ⟨gx,0,none⟩))::u9::u10::E8::BJ::Ii::E5::Jw::DL::H6::HY::En::Hz::Em::EZ::EY::EX::DK::DJ::DI::Ej::Ei::Eh::Ef::Ee::Ed::Ec::Eb::Ea::D_::D9::D8::Hy::EW::EU::ET::ES::ER::EP::EO::EN::EM::EL::EK::EJ::EI::Ih::Hw::F9::D7::EH::EG::Ig::Ie::Ic::u63::u64::u65::u66::F8::F7::F6::F5::Ho::Hl::Hg::FZ::FY::FX::FV::FQ::FP::FN::FM::FK::Jv::Ju::Jt::Hf::FH::EF::ED::EC::Ez::Ey::JM::JL::Ib::Ia::[]).toArray,[]⟩ wr) :
 Code.wp Tryz.prog (XZ Tryz.f30 14) Q0 ⟨(x0::x1::x2::x3::x4::x5::x6::x7::(.pointer (some ⟨gx,0,none⟩))::x9::Gf::E8::BJ::Ii::E5::Jw::DL::H6::HY::En::Hz::Em::EZ::EY::EX::DK::DJ::DI::Ej::Ei::Eh::Ef::Ee::Ed::Ec::Eb::Ea::D_::D9::D8::Hy::EW::EU::ET::ES::ER::EP::EO::EN::EM::EL::EK::EJ::EI::Ih::Hw::F9::D7::EH::EG::Ig::Ie::Ic::Hu::Ht::Hr::Hq::F8::F7::F6::F5::Ho::Hl::Hg::FZ::FY::FX::FV::FQ::FP::FN::FM::FK::Jv::Ju::Jt::Hf::FH::EF::ED::EC::Ez::Ey::JM::JL::Ib::Ia::[]).toArray,[]⟩ Ol:=by
 conv=>arg 2;whnf
 have x1:=bX.out.cell 1;have x2:=bX.out.cell 2;have x3:=bX.out.cell 3;have x4:=bX.out.cell 4;have x5:=bX.out.cell 5;have x6:=bX.out.cell 6;have x7:=bX.out.cell 7;have x8:=bX.out.cell 8;have x9:=bX.out.cell 9;have Gf:=bX.out.cell 10;have E8:=bX.out.cell 11;have BJ:=bX.out.cell 12;have xl:=bX.out.lt;simp only[List.getElem?_toArray,List.getElem?_cons_zero,List.getElem?_cons_succ] at x1 x2 x3 x4 x5 x6 x7 x8 x9 Gf E8 BJ;have aP:=ζ (ah.refl Ol);clear bX;refine aF κ ?_;refine rK [0,1,2,3] 4 ?_;iterate 4 refine ay ?_
 refine aB ?_;refine aI [4,5] κ σ (fun wN hN hS=>(au.cons rfl (fun K' hK=> ?_) (au.cons rfl (fun K' hK=> ?_) au.nil)))
 ·skip
  try replace aP:=ζ (aP.o.trans hN)
  try replace bA:=ζ (bA.out.grows hN)
  try replace bS:=ζ (bS.out.grows hN)
  clear hN;go_simp;have hgA:=ζ aP.o.size;try have hab:=ζ (show _ < wN.heap.size from bS.out.lt)
  have bA:=ζ (aG.new wN 27 yg);replace aP:=ζ (aP.o.alloc (.cells yg 27));try replace bS:=ζ (bS.out.alloc (.cells yg 27))
  unfold yg at bA aP;try unfold yg at bS
  refine hK.o _ _ ?_ (fun hS=> ?_)
  ·exact aP.o
  generalize wN.heap.size=gA at *
  clear hK hS;refine aI [5] κ σ (fun wN hN hS=>(au.cons rfl (fun K' hK=> ?_) au.nil));try replace aP:=ζ (aP.o.trans hN)
  try replace bA:=ζ (bA.out.grows hN)
  try replace bS:=ζ (bS.out.grows hN)
  clear hN;go_simp;have tY:=ζ aP.o.size;try have hab:=ζ (show _ < wN.heap.size from bA.out.lt)
  have bS:=ζ (aG.new wN 82 yc);replace aP:=ζ (aP.o.alloc (.cells yc 82));try replace bA:=ζ (bA.out.alloc (.cells yc 82))
  unfold yc at bS aP;try unfold yc at bA
  refine hK.o _ _ ?_ (fun hS=> ?_)
  ·exact aP.o
  generalize wN.heap.size=gS at *
  clear hK hS;refine aI [6] κ σ (fun wN hN hS=>(au.cons rfl (fun K' hK=> ?_) au.nil));try replace aP:=ζ (aP.o.trans hN)
  try replace bA:=ζ (bA.out.grows hN)
  try replace bS:=ζ (bS.out.grows hN)
  clear hN;obtain⟨z0,z1,z2,z3,z4,z5,zf,zl⟩:=oK bA.out;obtain⟨n0,n1,n2⟩:=NV bA.out aP.o hgA.o (.string s0) (.slice fA fm fk) (.int .i64 lv) (.int .u32 lc) (.int .i64 f) (.int .i64 t);replace bS:=ζ (n2 _ _ _ bS.out (by have:=hab.o;omega));replace n0:=ζ n0;replace n1:=ζ n1;clear n2;go_simp;refine hK.o _ _ ?_ (fun hS=> ?_)
  ·exact n1.out
  clear z0 z1 z2 z3 z4 z5 zf zl bA aP;generalize ((((((wN.setCell ⟨gA,0,none⟩ (.string s0)).setCell ⟨gA,1,none⟩ (.slice fA fm fk)).setCell ⟨gA,2,none⟩ (.int .i64 lv)).setCell ⟨gA,3,none⟩ (.int .u32 lc)).setCell ⟨gA,4,none⟩ (.int .i64 f)).setCell ⟨gA,5,none⟩ (.int .i64 t))=w9 at *
  have bA:=n0;have aP:=n1;clear n0 n1;clear hK hS;refine aI [7] κ σ (fun wN hN hS=>(au.cons rfl (fun K' hK=> ?_) au.nil));try replace aP:=ζ (aP.o.trans hN)
  try replace bA:=ζ (bA.out.grows hN)
  try replace bS:=ζ (bS.out.grows hN)
  clear hN;obtain⟨z0,z1,z2,z3,z4,z5,zf,zl⟩:=oK bS.out;obtain⟨n0,n1,n2⟩:=NV bS.out aP.o tY.o (.int .i64 id) (.slice sA sm sk) (.int .i64 sf) (.int .i64 st) (.int .i64 slv) (.int .u32 slc);replace bA:=ζ (n2 _ _ _ bA.out (by have:=hab.o;omega));replace n0:=ζ n0;replace n1:=ζ n1;clear n2;go_simp;refine hK.o _ _ ?_ (fun hS=> ?_)
  ·exact n1.out
  clear z0 z1 z2 z3 z4 z5 zf zl bS aP;generalize ((((((wN.setCell ⟨gS,0,none⟩ (.int .i64 id)).setCell ⟨gS,1,none⟩ (.slice sA sm sk)).setCell ⟨gS,2,none⟩ (.int .i64 sf)).setCell ⟨gS,3,none⟩ (.int .i64 st)).setCell ⟨gS,4,none⟩ (.int .i64 slv)).setCell ⟨gS,5,none⟩ (.int .u32 slc))=w9 at *
  have bS:=n0;have aP:=n1;clear n0 n1;clear hK hS;refine aH κ (fun wN hN hS=> ?_);try replace aP:=ζ (aP.o.trans hN)
  try replace bA:=ζ (bA.out.grows hN)
  try replace bS:=ζ (bS.out.grows hN)
  apply oO;exact⟨_,_,rfl,rfl,bA,bS,aP⟩
 ·skip
  try replace aP:=ζ (aP.o.trans hN)
  try replace bA:=ζ (bA.out.grows hN)
  try replace bS:=ζ (bS.out.grows hN)
  clear hN;go_simp;have tY:=ζ aP.o.size;try have hab:=ζ (show _ < wN.heap.size from bA.out.lt)
  have bS:=ζ (aG.new wN 82 yc);replace aP:=ζ (aP.o.alloc (.cells yc 82));try replace bA:=ζ (bA.out.alloc (.cells yc 82))
  unfold yc at bS aP;try unfold yc at bA
  refine hK.o _ _ ?_ (fun hS=> ?_)
  ·exact aP.o
  generalize wN.heap.size=gS at *
  clear hK hS;refine aI [4] κ σ (fun wN hN hS=>(au.cons rfl (fun K' hK=> ?_) au.nil));try replace aP:=ζ (aP.o.trans hN)
  try replace bA:=ζ (bA.out.grows hN)
  try replace bS:=ζ (bS.out.grows hN)
  clear hN;go_simp;have hgA:=ζ aP.o.size;try have hab:=ζ (show _ < wN.heap.size from bS.out.lt)
  have bA:=ζ (aG.new wN 27 yg);replace aP:=ζ (aP.o.alloc (.cells yg 27));try replace bS:=ζ (bS.out.alloc (.cells yg 27))
  unfold yg at bA aP;try unfold yg at bS
  refine hK.o _ _ ?_ (fun hS=> ?_)
  ·exact aP.o
  generalize wN.heap.size=gA at *
  clear hK hS;refine aI [6] κ σ (fun wN hN hS=>(au.cons rfl (fun K' hK=> ?_) au.nil));try replace aP:=ζ (aP.o.trans hN)
  try replace bA:=ζ (bA.out.grows hN)
  try replace bS:=ζ (bS.out.grows hN)
  clear hN;obtain⟨z0,z1,z2,z3,z4,z5,zf,zl⟩:=oK bA.out;obtain⟨n0,n1,n2⟩:=NV bA.out aP.o hgA.o (.string s0) (.slice fA fm fk) (.int .i64 lv) (.int .u32 lc) (.int .i64 f) (.int .i64 t);replace bS:=ζ (n2 _ _ _ bS.out (by have:=hab.o;omega));replace n0:=ζ n0;replace n1:=ζ n1;clear n2;go_simp;refine hK.o _ _ ?_ (fun hS=> ?_)
  ·exact n1.out
  clear z0 z1 z2 z3 z4 z5 zf zl bA aP;generalize ((((((wN.setCell ⟨gA,0,none⟩ (.string s0)).setCell ⟨gA,1,none⟩ (.slice fA fm fk)).setCell ⟨gA,2,none⟩ (.int .i64 lv)).setCell ⟨gA,3,none⟩ (.int .u32 lc)).setCell ⟨gA,4,none⟩ (.int .i64 f)).setCell ⟨gA,5,none⟩ (.int .i64 t))=w9 at *
  have bA:=n0;have aP:=n1;clear n0 n1;clear hK hS;refine aI [7] κ σ (fun wN hN hS=>(au.cons rfl (fun K' hK=> ?_) au.nil));try replace aP:=ζ (aP.o.trans hN)
  try replace bA:=ζ (bA.out.grows hN)
  try replace bS:=ζ (bS.out.grows hN)
  clear hN;obtain⟨z0,z1,z2,z3,z4,z5,zf,zl⟩:=oK bS.out;obtain⟨n0,n1,n2⟩:=NV bS.out aP.o tY.o (.int .i64 id) (.slice sA sm sk) (.int .i64 sf) (.int .i64 st) (.int .i64 slv) (.int .u32 slc);replace bA:=ζ (n2 _ _ _ bA.out (by have:=hab.o;omega));replace n0:=ζ n0;replace n1:=ζ n1;clear n2;go_simp;refine hK.o _ _ ?_ (fun hS=> ?_)
  ·exact n1.out
  clear z0 z1 z2 z3 z4 z5 zf zl bS aP;generalize ((((((wN.setCell ⟨gS,0,none⟩ (.int .i64 id)).setCell ⟨gS,1,none⟩ (.slice sA sm sk)).setCell ⟨gS,2,none⟩ (.int .i64 sf)).setCell ⟨gS,3,none⟩ (.int .i64 st)).setCell ⟨gS,4,none⟩ (.int .i64 slv)).setCell ⟨gS,5,none⟩ (.int .u32 slc))=w9 at *
  have bS:=n0;have aP:=n1;clear n0 n1;clear hK hS;refine aH κ (fun wN hN hS=> ?_);try replace aP:=ζ (aP.o.trans hN)
  try replace bA:=ζ (bA.out.grows hN)
  try replace bS:=ζ (bS.out.grows hN)
  apply oO;exact⟨_,_,rfl,rfl,bA,bS,aP⟩
structure Jq (w:World) (y:tN):Prop where
 ac:y.x.a.m≤y.x.a.k
 ak:y.x.a.k≤9223372036854775807
 aA:bW w 2 dZ y.x.a.A y.x.a.m y.x.a.a.fs
 al:y.x.a.a.l.ok
 sc:y.x.s.m≤y.x.s.k
 sk:y.x.s.k≤9223372036854775807
 sA:bW w 3 qW y.x.s.A y.x.s.m y.x.s.s.wh
 sl:y.x.s.s.l.ok
theorem Jq.keep {w w':World} {y:tN} (h:Jq w y) (hg:ah w w'):Jq w' y:=⟨h.ac,h.ak,h.aA.keep hg,h.al,h.sc,h.sk,h.sA.keep hg,h.sl⟩
def nX (y:tN):tN:=⟨y.id,⟨y.x.k,⟨⟨y.x.a.a.src,y.x.a.a.fs.take (min y.x.a.m 12),y.x.a.a.l,y.x.a.a.f,y.x.a.a.t⟩,y.x.a.A,min y.x.a.m 12,y.x.a.k⟩,⟨⟨y.x.s.s.wh.take (min y.x.s.m 14),y.x.s.s.f,y.x.s.s.t,y.x.s.s.l⟩,y.x.s.A,min y.x.s.m 14,y.x.s.k⟩,y.x.now⟩⟩
theorem adV {w:World} {y:tN} (h:Jq w y):(nX y).x.At w:=
 ⟨⟨h.aA.take (Nat.min_le_left _ _),by show min y.x.a.m 12≤1000;omega,h.al⟩,⟨h.sA.take (Nat.min_le_left _ _),by show min y.x.s.m 14≤65536;omega,h.sl⟩⟩
def ZK (xs:List tN) (w:World) (e:Ending) (w':World):Prop:=
 ∃(A:Option Addr) (c:Nat) (A':Option Addr) (c':Nat) (ds:List tN),e =.returned (.tuple #[.slice A ds.length c,.slice A' ds.length c'])∧bW w' 13 su A ds.length (ds.map (·.x))∧bW w' 14 uf A' ds.length ds∧(∀d∈ds,∃z∈xs,d = nX z)∧gG (ds.map (·.x.e))≤8∧ds.length≤25∧ah w w'
theorem aao (ds:List tN) (y:tN):gG ((ds++[y]).map (·.x.e))=gG (ds.map (·.x.e))+if y.x.k=0 then 1 else 0:=by
 rw[List.map_append];exact aan _ _
theorem aen {lA:Option Addr} {lm lk:Nat} {xs:List tN} (w:World) (hX:bW w 14 uf lA lm xs) (ajU:∀y∈xs,Jq w y) :
 Calls Tryz.prog 30 #[.slice lA lm lk] w (ZK xs w):=by
 replace hX:=ζ hX;replace ajU:=ζ ajU;go_enter Tryz.func30,Tryz.ntmps30
 go_wp2;go_loopw [4,5,6,7] (fun o d t i wr=>∃(k T:Nat) (ds:List tN) (A:Option Addr) (c:Nat) (A':Option Addr) (c':Nat),k≤lm∧k≤25∧i =.int .i64 (k:Int)∧t =.int .i64 (T:Int)∧o =.slice A ds.length c∧d =.slice A' ds.length c'∧Hid (Own wr w.heap.size 166 13 su (.slice A ds.length c) (ds.map (·.x)))∧Hid (Own wr w.heap.size 168 14 uf (.slice A' ds.length c') ds)∧Hid (∀d∈ds,∃z∈xs,d = nX z)∧T≤k∧Hid (gG (ds.map (·.x.e))≤T∧gG (ds.map (·.x.e))≤8)∧ds.length≤k∧Hid (ah w wr)) (fun _ _ _ i _=>25-(intOf i).toNat)
 case atStart=>exact⟨0,0,[],none,0,none,0,ω,ω,rfl,rfl,rfl,rfl,ζ (Own.iO _ _ _ _ _),ζ (Own.iO _ _ _ _ _),ζ (fun d hd=>(List.not_mem_nil hd).elim),Nat.le_refl _,ζ ⟨Nat.le_refl _,Nat.zero_le _⟩,Nat.le_refl _,ζ (ah.refl _)⟩
 case round=>
  obtain⟨k,T,ds,A,c,A',c',hk,aGb,rfl,rfl,rfl,rfl,hO,hD,hat,hTk,hTl,YM,hG⟩:=hrel;by_cases qC:k<lm∧k<25
  ·obtain⟨bb,off,y,rfl,CW,hx,hcell⟩:=(hX.o.keep hG.o).at_ qC.1;have c0:wr.cell? ⟨bb,off+k*14,none⟩=some (.int .i64 y.x.k):=hcell 0 _ rfl;have c1:wr.cell? ⟨bb,off+k*14+1,none⟩=some (.string ⟨y.x.a.a.src.toArray⟩):=hcell 1 _ rfl;have c2:wr.cell? ⟨bb,off+k*14+2,none⟩=some (.slice y.x.a.A y.x.a.m y.x.a.k):=hcell 2 _ rfl;have c3:wr.cell? ⟨bb,off+k*14+3,none⟩=some (.int .i64 y.x.a.a.l.lv):=hcell 3 _ rfl;have c4:wr.cell? ⟨bb,off+k*14+4,none⟩=some (.int .u32 (y.x.a.a.l.c:Int)):=hcell 4 _ rfl;have c5:wr.cell? ⟨bb,off+k*14+5,none⟩=some (.int .i64 y.x.a.a.f):=hcell 5 _ rfl;have c6:wr.cell? ⟨bb,off+k*14+6,none⟩=some (.int .i64 y.x.a.a.t):=hcell 6 _ rfl;have c7:wr.cell? ⟨bb,off+k*14+7,none⟩=some (.int .i64 y.id):=hcell 7 _ rfl;have c8:wr.cell? ⟨bb,off+k*14+8,none⟩=some (.slice y.x.s.A y.x.s.m y.x.s.k):=hcell 8 _ rfl;have c9:wr.cell? ⟨bb,off+k*14+9,none⟩=some (.int .i64 y.x.s.s.f):=hcell 9 _ rfl;have c10:wr.cell? ⟨bb,off+k*14+10,none⟩=some (.int .i64 y.x.s.s.t):=hcell 10 _ rfl;have c11:wr.cell? ⟨bb,off+k*14+11,none⟩=some (.int .i64 y.x.s.s.l.lv):=hcell 11 _ rfl;have c12:wr.cell? ⟨bb,off+k*14+12,none⟩=some (.int .u32 (y.x.s.s.l.c:Int)):=hcell 12 _ rfl;have c13:wr.cell? ⟨bb,off+k*14+13,none⟩=some (.int .i64 y.x.now):=hcell 13 _ rfl;have kX:(k:Int)<(lm:Int):=ω;have aF8:(k:Int)<25:=ω;have ank:=ζ (ajU.o y (List.mem_of_getElem? hx));have r1:=ank.o.ac;have r2:=ank.o.ak;have r3:=ank.o.sc;have r4:=ank.o.sk;have aF1:(min (y.x.a.m:Int) 12).toNat=min y.x.a.m 12:=ω;have aF0:(min (y.x.s.m:Int) 14).toNat=min y.x.s.m 14:=ω;have VZ:=hG.o.size;have YC:Hid (gG ((ds++[nX y]).map (·.x.e))=gG (ds.map (·.x.e))+if y.x.k=0 then 1 else 0):=ζ (aao ds (nX y));have jL:=ζ ((ah.refl wr).alloc (.cells (uf (nX y)).toArray 168));have hgb:=ζ (((ah.refl wr).alloc (.cells (uf (nX y)).toArray 168)).alloc (.cells (uf (nX y)).toArray 168));have bXb:=ζ ((aG.new wr 168 (uf (nX y)).toArray).alloc (.cells (uf (nX y)).toArray 168));have hDb:=ζ (hD.o.grows hgb.o);have Qz:=ζ (hO.o.grows hgb.o);have hGb:=ζ (hG.o.trans hgb.o);unfold uf nX at bXb hDb Qz hGb;simp only at bXb hDb Qz hGb;have wU:=ζ (List.mem_of_getElem? hx);clear hcell hx;by_cases h0:y.x.k=0
   ·have h0z:(y.x.k==0)=true:=by simp[h0]
    by_cases hT8:T+1≤8
    ·have hTi:¬(8:Int)<(T:Int)+1:=ω;have ZV:Hid (gG ((ds++[nX y]).map (·.x.e))≤T+1∧gG ((ds++[nX y]).map (·.x.e))≤8):=ζ (by have:=hTl.o;rw[YC.o,if_pos h0];omega);replace h0:=ζ h0;clear YC;have hyc:Hid (∃z∈xs,nX y = nX z):=ζ ⟨y,wU.o,rfl⟩;go_wp2_with (at_builtin;go_loud (refine dB (x:=nX y) axA rfl (.tmp 59) (.tmp 61) rfl hDb.o rfl ⟨wr.heap.size+1,0,none⟩ rfl rfl (iK (by exact aG.kV wr _ _ _)) (ao0 _) (by simp;omega) (by unfold maxLen;omega) ω (fun v4 w4 hD4 hgr qU=> ?_);(obtain⟨g4,k4,hv4⟩:=mg hD4 σ);(rw[List.length_append] at hv4);(simp only[List.length_cons,List.length_nil,Nat.zero_add] at hv4);(subst hv4);(have Zu:=ζ (bXb.out.aQ hgr (fun e=>by obtain⟨cs,h2⟩:=(hD.o.nZ _ e.symm).2;have:=h2.lt;omega)));(have lJ:=ζ (Qz.o.kept' hgr (fun j hj hv=>by obtain⟨cs,h2⟩:=(hDb.o.nZ j hj).2;exact aZ Qz.o h2 δ hv)));(have rJ:=ζ (hGb.o.aQ hgr (fun j hj=>(hDb.o.nZ j hj).1)));(replace hD4:=ζ hD4);clear hgr qU hDb Qz hGb bXb hO hD hG jL hgb c0 c1 c2 c3 c4 c5 c6 c7 c8 c9 c10 c11 c12 c13));generalize wr.heap.size=gx at *
     refine PW Zu π ?_;intros
     rename_i w5 hz5;obtain⟨ga,gs,rfl,rfl,bA5,bS5,H8⟩:=hz5;have U1:=ζ (Zu.out.grows H8.o);have mJ:=ζ (lJ.o.grows H8.o);have hD5:=ζ (hD4.o.grows H8.o);have oP:=ζ (rJ.o.trans H8.o);have Yx:=ζ oP.o.size;have e0:=U1.out.cell 0;have e13:=U1.out.cell 13;have el:=U1.out.lt;obtain⟨a0,a1,a2,a3,a4,a5,-,al⟩:=oK bA5.out;obtain⟨-,s1,s2,s3,s4,s5,-,sl⟩:=oK bS5.out;simp only[List.getElem?_toArray,List.getElem?_cons_zero,List.getElem?_cons_succ] at e0 e13;clear Zu lJ hD4 rJ H8 bA5 bS5 U1;go_wp2_with (at_builtin;go_loud (refine dB (x:=(nX y).x) asA rfl (.tmp 67) (.tmp 93) rfl (mJ.o.alloc _) rfl ⟨w5.heap.size,0,none⟩ rfl rfl (iK (by exact heap_alloc_new w5 _)) (aqz _) (by have:=Yx.o;simp;omega) (by unfold maxLen;rw[List.length_map];omega) (by rw[List.length_map];omega) (fun v6 w6 uz hgr qU=> ?_);(obtain⟨g6,k6,VX⟩:=mg uz σ);(rw[List.length_append,List.length_map] at VX);(simp only[List.length_cons,List.length_nil,Nat.zero_add] at VX);(subst VX);(have KE:=(ah.refl w5).alloc (.cells (su (nX y).x).toArray 166));(have hD6:=ζ ((hD5.o.grows KE).kept' hgr (fun j hj hv=>by obtain⟨cs,h2⟩:=((mJ.o.grows KE).nZ j hj).2;exact aZ (hD5.o.grows KE) h2 δ hv)));(have Fq:=ζ ((oP.o.trans KE).aQ hgr (fun j hj=>((mJ.o.grows KE).nZ j hj).1)));(replace uz:=ζ uz);clear hgr qU KE));go_roundw
     case rel=>exact⟨k+1,T+1,ds++[nX y],some ⟨g6,0,none⟩,k6,some ⟨g4,0,none⟩,k4,ω,ω,ν,ν,by simp,by simp,ζ (by simpa using uz.o),ζ (by have h:=hD6.o;rw[show (ds++[nX y]).length=ds.length+1 by simp];exact h),ζ (fun d hd=>by rcases List.mem_append.1 hd with h | h;exact hat.o d h;rw[List.mem_singleton] at h;subst h;exact hyc.o),ω,ZV,by simp;omega,Fq⟩
     case measure=>exact ψ
    ·have hTi:(8:Int)<(T:Int)+1:=ω;have ZV:Hid (gG (ds.map (·.x.e))≤T+1∧gG (ds.map (·.x.e))≤8):=ζ (by have:=hTl.o;omega);replace h0:=ζ h0;clear YC hgb bXb hDb Qz hGb;go_wp2;go_roundw
     case rel=>exact⟨k+1,T+1,ds,A,c,A',c',ω,ω,ν,ν,rfl,rfl,ζ (hO.o.alloc _),ζ (hD.o.alloc _),hat,ω,ZV,ω,ζ (hG.o.alloc _)⟩
     case measure=>exact ψ
   ·have h0z:(y.x.k==0)=false:=by simp[h0]
    have ZV:Hid (gG ((ds++[nX y]).map (·.x.e))≤T∧gG ((ds++[nX y]).map (·.x.e))≤8):=ζ (by have:=hTl.o;rw[YC.o,if_neg h0];omega);replace h0:=ζ h0;clear YC;have hyc:Hid (∃z∈xs,nX y = nX z):=ζ ⟨y,wU.o,rfl⟩;go_wp2_with (at_builtin;go_loud (refine dB (x:=nX y) axA rfl (.tmp 59) (.tmp 61) rfl hDb.o rfl ⟨wr.heap.size+1,0,none⟩ rfl rfl (iK (by exact aG.kV wr _ _ _)) (ao0 _) (by simp;omega) (by unfold maxLen;omega) ω (fun v4 w4 hD4 hgr qU=> ?_);(obtain⟨g4,k4,hv4⟩:=mg hD4 σ);(rw[List.length_append] at hv4);(simp only[List.length_cons,List.length_nil,Nat.zero_add] at hv4);(subst hv4);(have Zu:=ζ (bXb.out.aQ hgr (fun e=>by obtain⟨cs,h2⟩:=(hD.o.nZ _ e.symm).2;have:=h2.lt;omega)));(have lJ:=ζ (Qz.o.kept' hgr (fun j hj hv=>by obtain⟨cs,h2⟩:=(hDb.o.nZ j hj).2;exact aZ Qz.o h2 δ hv)));(have rJ:=ζ (hGb.o.aQ hgr (fun j hj=>(hDb.o.nZ j hj).1)));(replace hD4:=ζ hD4);clear hgr qU hDb Qz hGb bXb hO hD hG jL hgb c0 c1 c2 c3 c4 c5 c6 c7 c8 c9 c10 c11 c12 c13));generalize wr.heap.size=gx at *
    refine PW Zu π ?_;intros
    rename_i w5 hz5;obtain⟨ga,gs,rfl,rfl,bA5,bS5,H8⟩:=hz5;have U1:=ζ (Zu.out.grows H8.o);have mJ:=ζ (lJ.o.grows H8.o);have hD5:=ζ (hD4.o.grows H8.o);have oP:=ζ (rJ.o.trans H8.o);have Yx:=ζ oP.o.size;have e0:=U1.out.cell 0;have e13:=U1.out.cell 13;have el:=U1.out.lt;obtain⟨a0,a1,a2,a3,a4,a5,-,al⟩:=oK bA5.out;obtain⟨-,s1,s2,s3,s4,s5,-,sl⟩:=oK bS5.out;simp only[List.getElem?_toArray,List.getElem?_cons_zero,List.getElem?_cons_succ] at e0 e13;clear Zu lJ hD4 rJ H8 bA5 bS5 U1;go_wp2_with (at_builtin;go_loud (refine dB (x:=(nX y).x) asA rfl (.tmp 67) (.tmp 93) rfl (mJ.o.alloc _) rfl ⟨w5.heap.size,0,none⟩ rfl rfl (iK (by exact heap_alloc_new w5 _)) (aqz _) (by have:=Yx.o;simp;omega) (by unfold maxLen;rw[List.length_map];omega) (by rw[List.length_map];omega) (fun v6 w6 uz hgr qU=> ?_);(obtain⟨g6,k6,VX⟩:=mg uz σ);(rw[List.length_append,List.length_map] at VX);(simp only[List.length_cons,List.length_nil,Nat.zero_add] at VX);(subst VX);(have KE:=(ah.refl w5).alloc (.cells (su (nX y).x).toArray 166));(have hD6:=ζ ((hD5.o.grows KE).kept' hgr (fun j hj hv=>by obtain⟨cs,h2⟩:=((mJ.o.grows KE).nZ j hj).2;exact aZ (hD5.o.grows KE) h2 δ hv)));(have Fq:=ζ ((oP.o.trans KE).aQ hgr (fun j hj=>((mJ.o.grows KE).nZ j hj).1)));(replace uz:=ζ uz);clear hgr qU KE));go_roundw
    case rel=>exact⟨k+1,T,ds++[nX y],some ⟨g6,0,none⟩,k6,some ⟨g4,0,none⟩,k4,ω,ω,ν,ν,by simp,by simp,ζ (by simpa using uz.o),ζ (by have h:=hD6.o;rw[show (ds++[nX y]).length=ds.length+1 by simp];exact h),ζ (fun d hd=>by rcases List.mem_append.1 hd with h | h;exact hat.o d h;rw[List.mem_singleton] at h;subst h;exact hyc.o),ω,ZV,by simp;omega,Fq⟩
    case measure=>exact ψ
  ·have aN:Hid (ZK xs w (.returned (.tuple #[.slice A ds.length c,.slice A' ds.length c'])) wr):=ζ ⟨A,c,A',c',ds,rfl,by have h:=hO.o.uU hkE;exact h,hD.o.uU avP,hat.o,hTl.o.2,ω,hG.o⟩;clear hO hD hG;by_cases Sm:k<lm
   ·have h1:(k:Int)<(lm:Int):=ω;have h2:¬(k:Int)<25:=ω;go_wp2;go_ret2;exact aN.o
   ·have h1:¬(k:Int)<(lm:Int):=ω;go_wp2;go_ret2;exact aN.o
end Go.Proofs.YtbhikkgpcmkonaaGreatDoor
