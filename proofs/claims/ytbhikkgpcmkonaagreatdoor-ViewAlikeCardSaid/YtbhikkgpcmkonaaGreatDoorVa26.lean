/- Parts: VLiA VLiv VFewA VFew LVAli -/
import Derived.Test.YtbhikkgpcmkonaaGreatDoorVa0
import Derived.Test.YtbhikkgpcmkonaaGreatDoorVa25
import Derived.Test.YtbhikkgpcmkonaaGreatDoorVa12
import Derived.Test.YtbhikkgpcmkonaaGreatDoorVa8
set_option maxRecDepth 100000
set_option maxHeartbeats 12800000
namespace Go.Proofs.YtbhikkgpcmkonaaGreatDoor
open Go.RowKit Go.Maps Go.WideMaps
def vl1 (w:World):World:=w.alloc (.cells #[.string ⟨dG.toArray⟩,.int .i64 3,.int .u32 0] 41)
def vl2 (w:World):World:=(vl1 w).alloc (.cells #[.string ⟨dG.toArray⟩,.slice none 0 0,.int .i64 0,.int .i64 1,.int .i64 9,.slice none 0 0] 46)
def vl3 (w:World):World:=(vl2 w).alloc (.cells #[.slice none 0 0,.slice (some ⟨w.heap.size,0,none⟩) 1 1,.slice none 0 0,.slice none 0 0,.slice (some ⟨w.heap.size+1,0,none⟩) 1 1,.slice none 0 0] 50)
def vl4 (w:World):World:=(vl3 w).alloc (.cells #[.string ⟨Nl.toArray⟩,.string ⟨#[116]⟩] 88)
def vl5 (w:World):World:=(vl4 w).alloc (.cells #[.string ⟨RG.toArray⟩,.slice (some ⟨w.heap.size+1+1+1,0,none⟩) 1 1,.int .i64 0,.int .u32 0,.int .i64 0,.int .i64 0] 57)
def vl6 (w:World):World:=(vl5 w).alloc (.cells #[.string ⟨RG.toArray⟩,.slice (some ⟨w.heap.size+1+1+1,0,none⟩) 1 1,.int .i64 5,.int .u32 0,.int .i64 0,.int .i64 0] 57)
theorem wR (w:World):(vl1 w).heap.size=w.heap.size+1∧(vl2 w).heap.size=w.heap.size+1+1∧(vl3 w).heap.size=w.heap.size+1+1+1∧(vl4 w).heap.size=w.heap.size+1+1+1+1∧(vl5 w).heap.size=w.heap.size+1+1+1+1+1∧(vl6 w).heap.size=w.heap.size+1+1+1+1+1+1:=by
 simp[vl1,vl2,vl3,vl4,vl5,vl6]
theorem asE (w:World):ah (vl1 w) (vl6 w):=(((((ah.refl _).alloc _).alloc _).alloc _).alloc _).alloc _
theorem asI (w:World):aF (vl6 w) (w.heap.size) 41 #[.string ⟨dG.toArray⟩,.int .i64 3,.int .u32 0]:=by
 exact (aF.new w _ _).grows (asE w)
theorem asD (w:World):ah (vl2 w) (vl6 w):=((((ah.refl _).alloc _).alloc _).alloc _).alloc _
theorem asH (w:World):aF (vl6 w) (w.heap.size+1) 46 #[.string ⟨dG.toArray⟩,.slice none 0 0,.int .i64 0,.int .i64 1,.int .i64 9,.slice none 0 0]:=by
 have h:=aF.new (vl1 w) 46 #[.string ⟨dG.toArray⟩,.slice none 0 0,.int .i64 0,.int .i64 1,.int .i64 9,.slice none 0 0];rw[show (vl1 w).heap.size=w.heap.size+1 by have:=wR w;exact this.1] at h;exact h.grows (asD w)
theorem asC (w:World):ah (vl3 w) (vl6 w):=(((ah.refl _).alloc _).alloc _).alloc _
theorem asG (w:World):aF (vl6 w) (w.heap.size+1+1) 50 #[.slice none 0 0,.slice (some ⟨w.heap.size,0,none⟩) 1 1,.slice none 0 0,.slice none 0 0,.slice (some ⟨w.heap.size+1,0,none⟩) 1 1,.slice none 0 0]:=by
 have h:=aF.new (vl2 w) 50 #[.slice none 0 0,.slice (some ⟨w.heap.size,0,none⟩) 1 1,.slice none 0 0,.slice none 0 0,.slice (some ⟨w.heap.size+1,0,none⟩) 1 1,.slice none 0 0];rw[show (vl2 w).heap.size=w.heap.size+1+1 by have:=wR w;exact this.2.1] at h;exact h.grows (asC w)
theorem asB (w:World):ah (vl4 w) (vl6 w):=((ah.refl _).alloc _).alloc _
theorem asF (w:World):aF (vl6 w) (w.heap.size+1+1+1) 88 #[.string ⟨Nl.toArray⟩,.string ⟨#[116]⟩]:=by
 have h:=aF.new (vl3 w) 88 #[.string ⟨Nl.toArray⟩,.string ⟨#[116]⟩];rw[show (vl3 w).heap.size=w.heap.size+1+1+1 by have:=wR w;exact this.2.2.1] at h;exact h.grows (asB w)
def zAX (w:World):dA:=⟨xP,some ⟨w.heap.size+1+1+1,0,none⟩,1,1⟩
def zBX (w:World):dA:=⟨zAl,some ⟨w.heap.size+1+1+1,0,none⟩,1,1⟩
def Wp (w:World):gJ:=⟨0,zAX w,LQ,0⟩
def zE2 (w:World):gJ:=⟨0,zBX w,LQ,0⟩
def Wn:gJ:=⟨2,QN,LQ,1⟩
def vl7 (w:World):World:=vl6 w
def vl8 (w:World):World:=(vl7 w).alloc (.cells #[.int .i64 0,.string ⟨RG.toArray⟩,.slice (some ⟨w.heap.size+1+1+1,0,none⟩) 1 1,.int .i64 0,.int .u32 0,.int .i64 0,.int .i64 0,.slice none 0 0,.int .i64 0,.int .i64 0,.int .i64 0,.int .u32 0,.int .i64 0,.int .i64 2,.string ⟨#[]⟩,.slice none 0 0,.int .i64 0,.int .u32 0,.int .i64 0,.int .i64 0,.slice none 0 0,.int .i64 0,.int .i64 0,.int .i64 0,.int .u32 0,.int .i64 1] 166)
def Ui (w:World):World:=(vl8 w).alloc (.cells #[.int .i64 0,.string ⟨RG.toArray⟩,.slice (some ⟨w.heap.size+1+1+1,0,none⟩) 1 1,.int .i64 0,.int .u32 0,.int .i64 0,.int .i64 0,.slice none 0 0,.int .i64 0,.int .i64 0,.int .i64 0,.int .u32 0,.int .i64 0,.int .i64 0,.string ⟨RG.toArray⟩,.slice (some ⟨w.heap.size+1+1+1,0,none⟩) 1 1,.int .i64 5,.int .u32 0,.int .i64 0,.int .i64 0,.slice none 0 0,.int .i64 0,.int .i64 0,.int .i64 0,.int .u32 0,.int .i64 0,.int .i64 2,.string ⟨#[]⟩,.slice none 0 0,.int .i64 0,.int .u32 0,.int .i64 0,.int .i64 0,.slice none 0 0,.int .i64 0,.int .i64 0,.int .i64 0,.int .u32 0,.int .i64 1] 166)
theorem Wy (w:World):(vl7 w).heap.size=w.heap.size+1+1+1+1+1+1:=by
 simp[vl7,(wR w).2.2.2.2.2]
theorem ag_ (w:World):(vl8 w).heap.size=w.heap.size+1+1+1+1+1+1+1:=by
 simp[vl8,Wy]
theorem anZ (w:World):ah (vl5 w) (Ui w):=by
 have h6:ah (vl5 w) (vl6 w):=(ah.refl _).alloc _;exact (h6.alloc _).alloc _
theorem Hq (w:World):ah w (Ui w):=(((((ah.refl w).alloc _).alloc _).alloc _).alloc _ |>.alloc _).trans (anZ w)
theorem anC {w:World} {g:Nat} {t:TypeId} {cs:Array Value} (h:aF (vl6 w) g t cs) (hl:g < (vl5 w).heap.size):aF (Ui w) g t cs:=by
 have h5:aF (vl5 w) g t cs:=by
  unfold aF at *
  rw[←h];exact (ah.alloc (ah.refl (vl5 w)) _:ah (vl5 w) (vl6 w)).below.block g hl |>.symm
 exact h5.grows (anZ w)
def mX (w:World):bU where
 s:=⟨[],none,0,0⟩
 r:=⟨[⟨dG,⟨3,0⟩⟩],some ⟨w.heap.size,0,none⟩,1,1⟩
 e:=⟨[],none,0,0⟩
 a:=⟨[],none,0,0⟩
 o:=[⟨⟨dG,[],0,1,9,[]⟩,none,0,0,none,0,0⟩]
 oA:=some ⟨w.heap.size+1,0,none⟩
 om:=1
 ok:=1
 i:=[]
 iA:=none
 im:=0
 ik:=0
theorem vb1 (w:World):aF (Ui w) (w.heap.size) 41 #[.string ⟨dG.toArray⟩,.int .i64 3,.int .u32 0]:=anC (asI w) (by rw[(wR w).2.2.2.2.1];omega)
theorem vb2 (w:World):aF (Ui w) (w.heap.size+1) 46 #[.string ⟨dG.toArray⟩,.slice none 0 0,.int .i64 0,.int .i64 1,.int .i64 9,.slice none 0 0]:=anC (asH w) (by rw[(wR w).2.2.2.2.1];omega)
theorem vb3 (w:World):aF (Ui w) (w.heap.size+1+1) 50 #[.slice none 0 0,.slice (some ⟨w.heap.size,0,none⟩) 1 1,.slice none 0 0,.slice none 0 0,.slice (some ⟨w.heap.size+1,0,none⟩) 1 1,.slice none 0 0]:=anC (asG w) (by rw[(wR w).2.2.2.2.1];omega)
theorem vb4 (w:World):aF (Ui w) (w.heap.size+1+1+1) 88 #[.string ⟨Nl.toArray⟩,.string ⟨#[116]⟩]:=anC (asF w) (by rw[(wR w).2.2.2.2.1];omega)
theorem G5 (w:World):(mX w).At (Ui w) where
 s:=aay _
 r:=⟨by have h:=bW.Js (enc:=Yt) (l:=[(⟨dG,⟨3,0⟩⟩:Bo)]) hkN (vb1 w) rfl;exact h,by simp[mX],by intro y hy;simp only[mX,List.mem_singleton] at hy;subst hy;exact (by decide:(0:Nat)<4294967296),by intro y hy;simp only[mX,List.mem_singleton] at hy;subst hy;decide⟩
 e:=aay _
 a:=aay _
 o:=by have h:=bW.Js (enc:=encR) (l:=[(⟨⟨dG,[],0,1,9,[]⟩,none,0,0,none,0,0⟩:Bc)]) hkR (vb2 w) rfl;exact h
 ole:=by simp[mX]
 oAt:=by
  intro y hy;simp only[mX,List.mem_singleton] at hy;subst hy;exact⟨bW.iH,by simp,by simp,bW.iH,by simp⟩
 i:=bW.iH
 ile:=by simp[mX]
 iAt:=by intro y hy;simp[mX] at hy
theorem anX (w:World):(zAX w).At (Ui w):=⟨by have h:=bW.Js (enc:=dW) (l:=[(⟨Nl,[116]⟩:bK)]) IZ (vb4 w) rfl;exact h,by simp[zAX],(by decide:(0:Nat)<4294967296)⟩
theorem asz (w:World):(zBX w).At (Ui w):=⟨by have h:=bW.Js (enc:=dW) (l:=[(⟨Nl,[116]⟩:bK)]) IZ (vb4 w) rfl;exact h,by simp[zBX],(by decide:(0:Nat)<4294967296)⟩
theorem acE (w:World):QN.At w:=⟨bW.iH,Nat.zero_le _,MO⟩
theorem ag6 (w:World):yX (Ui w) (some ⟨w.heap.size+1+1+1+1+1+1,0,none⟩) 2 [Wp w,Wn]:=by
 have hb:=aF.new (vl7 w) 166 (cu qV [Wp w,Wn]).toArray;rw[Wy] at hb;exact⟨bW.Js (l:=[Wp w,Wn]) hkE (hb.alloc _) rfl,fun y hy=>by
  simp only[List.mem_cons,List.not_mem_nil,or_false] at hy;rcases hy with rfl | rfl
  ·exact⟨anX w,zJ _⟩
  ·exact⟨acE _,zJ _⟩,ω⟩
theorem ach (w:World):yX (Ui w) (some ⟨w.heap.size+1+1+1+1+1+1+1,0,none⟩) 3 [Wp w,zE2 w,Wn]:=by
 have hb:=aF.new (vl8 w) 166 (cu qV [Wp w,zE2 w,Wn]).toArray;rw[ag_] at hb;exact⟨bW.Js (l:=[Wp w,zE2 w,Wn]) hkE hb rfl,fun y hy=>by
  simp only[List.mem_cons,List.not_mem_nil,or_false] at hy;rcases hy with rfl | rfl | rfl
  ·exact⟨anX w,zJ _⟩
  ·exact⟨asz w,zJ _⟩
  ·exact⟨acE _,zJ _⟩,ω⟩
theorem Zt {fb:cZ→Bool} {ft:List bK→cZ→Bool} (X0:∀y,mO fb y) (hta:∀y,lN ft y) (w:World) (he:oD w) (hu:oz w) :
 Calls Tryz.prog 29 #[] w fun e w'=>e =.returned (.bool true)∧ah w w':=by
 have cR1:=ζ (fun W lk (hW:ah (Ui w) W)=>J_ (fb:=fb) (ft:=ft) (p:=mX w) (rec:=dG) (lk:=lk) W ((he.grows (Hq w)).grows hW) ((hu.grows (Hq w)).grows hW) ((G5 w).keep hW) X0 hta ((ag6 w).keep hW) ω (show gu zL≤12 by decide));have cR2:=ζ (fun W lk (hW:ah (Ui w) W)=>J_ (fb:=fb) (ft:=ft) (p:=mX w) (rec:=dG) (lk:=lk) W ((he.grows (Hq w)).grows hW) ((hu.grows (Hq w)).grows hW) ((G5 w).keep hW) X0 hta ((ach w).keep hW) ω (show gu zM≤12 by decide));have cA3:=ζ (fun W c c' (hW:ah (Ui w) W)=>by
  have h:=uK (p:=mX w) (tt:=⟨3,0⟩) (c:=c) (c':=c') W ((G5 w).keep hW) (by exact (by decide:(0:Nat)<4294967296)) ((ag6 w).keep hW) ((ach w).keep hW);rw[show lu (mX w).aU ([Wp w,Wn].map (·.e)) ([Wp w,zE2 w,Wn].map (·.e)) ⟨3,0⟩=true from ag5] at h;exact h)
 have cA5:=ζ (fun W c c' (hW:ah (Ui w) W)=>by
  have h:=uK (p:=mX w) (tt:=⟨5,0⟩) (c:=c) (c':=c') W ((G5 w).keep hW) (by exact (by decide:(0:Nat)<4294967296)) ((ag6 w).keep hW) ((ach w).keep hW);rw[show lu (mX w).aU ([Wp w,Wn].map (·.e)) ([Wp w,zE2 w,Wn].map (·.e)) ⟨5,0⟩=false from ag4] at h;exact h)
 have cC:=ζ (fun W c (hW:ah (Ui w) W)=>yw (p:=mX w) (tt:=⟨0,0⟩) (lk:=c) W ((G5 w).keep hW) (by exact (by decide:(0:Nat)<4294967296)) ((ach w).keep hW));have Ya:Hid ((lH fb ft (mX w).aU dG ([Wp w,Wn].map (·.e))).length=1):=ζ (ag1 fb ft);have hL2:Hid (lH fb ft (mX w).aU dG ([Wp w,zE2 w,Wn].map (·.e))=lH fb ft (mX w).aU dG ([Wp w,Wn].map (·.e))):=ζ (aoU fb ft);have hL3:Hid ((kD (mX w).aU ([Wp w,zE2 w,Wn].map (·.e)) ⟨0,0⟩).length=2):=ζ aoW;generalize lH fb ft (mX w).aU dG ([Wp w,Wn].map (·.e))=R1 at *
 generalize lH fb ft (mX w).aU dG ([Wp w,zE2 w,Wn].map (·.e))=R2 at *
 generalize kD (mX w).aU ([Wp w,zE2 w,Wn].map (·.e)) ⟨0,0⟩=C3 at *
 have iG:=ζ (Hq w);have bp:=ζ (vb3 w);clear X0 hta he hu;go_enter Tryz.func29,Tryz.ntmps29
 go_wp2_with fail;change Code.wp _ _ _ _ (Ui w)
 generalize Ui w = w9 at *
 have p0:=bp.out.cell 0;have p1:=bp.out.cell 1;have p2:=bp.out.cell 2;have p3:=bp.out.cell 3;have p4:=bp.out.cell 4;have p5:=bp.out.cell 5;have pz:=bp.out.lt;simp only[List.getElem?_toArray,List.getElem?_cons_zero,List.getElem?_cons_succ] at p0 p1 p2 p3 p4 p5;have aN:=ζ (ah.refl w9);clear bp;refine aG κ ?_;refine rK (.range 16) 22 ?_;iterate 4 refine aC ?_
 refine aY (.bool true) rfl χ (fun wq eG=> ?_) ?_
 ·obtain⟨nR,mY⟩:=bQ eG;go_simp;exact Calls.mono (cA3.out wq _ _ eG) (fun e w'' h=>h)
 go_simp;iterate 5 refine aC ?_
 refine aY (.bool false) rfl χ (fun wq eG=> ?_) ?_
 ·obtain⟨nR,mY⟩:=bQ eG;go_simp;exact Calls.mono (cA5.out wq _ _ eG) (fun e w'' h=>h)
 go_simp;iterate 5 refine aC ?_
 refine aB ?_;refine aH [16] κ σ (fun wN hN hS=>(au.cons rfl (fun K' hK=> ?_) au.nil));try replace aN:=ζ (aN.o.trans hN)
 try replace AY:=ζ (AY.o.keep hN)
 try replace AX:=ζ (AX.o.keep hN)
 try replace Ba:=ζ (fun x hx=>(Ba.o x hx).keep hN)
 try replace A_:=ζ (fun x hx=>(A_.o x hx).keep hN)
 clear hN;go_simp;refine (cR1.out _ _ aN.o).mono ?_;rintro e w5 ⟨A16,k16,aym,rfl,az6,aAk,auv,azk,fM⟩;have Y9:aym.length=1:=by rw[←Ya.o,←auv,List.length_map]
 rw[Y9];replace aN:=ζ (aN.o.trans fM);refine hK.o _ _ ?_ (fun hS=> ?_)
 ·exact aN.o
 clear az6 aAk auv azk fM Y9;clear hK hS;refine rK [17,18,19,20,21,22,24,25] 13 ?_;iterate 8 refine aC ?_
 refine aB ?_;refine aH [23] κ σ (fun wN hN hS=>(au.cons rfl (fun K' hK=> ?_) au.nil));try replace aN:=ζ (aN.o.trans hN)
 try replace AY:=ζ (AY.o.keep hN)
 try replace AX:=ζ (AX.o.keep hN)
 try replace Ba:=ζ (fun x hx=>(Ba.o x hx).keep hN)
 try replace A_:=ζ (fun x hx=>(A_.o x hx).keep hN)
 clear hN;go_simp;refine (cR1.out _ _ aN.o).mono ?_;rintro e w5 ⟨A23,k23,ayl,rfl,AY,Ba,amw,amF,fM⟩;replace Ba:=ζ (fun x hx=>(Ba x hx).good);replace AY:=ζ AY;replace amw:=ζ amw;replace amF:=ζ amF;replace aN:=ζ (aN.o.trans fM);try replace AX:=ζ (AX.o.keep fM)
 try replace A_:=ζ (fun x hx=>(A_.o x hx).keep fM)
 refine hK.o _ _ ?_ (fun hS=> ?_)
 ·exact aN.o
 clear fM;clear hK hS;refine aH [26] κ σ (fun wN hN hS=>(au.cons rfl (fun K' hK=> ?_) au.nil));try replace aN:=ζ (aN.o.trans hN)
 try replace AY:=ζ (AY.o.keep hN)
 try replace AX:=ζ (AX.o.keep hN)
 try replace Ba:=ζ (fun x hx=>(Ba.o x hx).keep hN)
 try replace A_:=ζ (fun x hx=>(A_.o x hx).keep hN)
 clear hN;go_simp;refine (cR2.out _ _ aN.o).mono ?_;rintro e w5 ⟨A26,k26,ayk,rfl,AX,A_,amv,amE,fM⟩;replace A_:=ζ (fun x hx=>(A_ x hx).good);replace AX:=ζ AX;replace amv:=ζ amv;replace amE:=ζ amE;replace aN:=ζ (aN.o.trans fM);try replace AY:=ζ (AY.o.keep fM)
 try replace Ba:=ζ (fun x hx=>(Ba.o x hx).keep fM)
 refine hK.o _ _ ?_ (fun hS=> ?_)
 ·exact aN.o
 clear fM;clear hK hS;refine aH [27] κ σ (fun wN hN hS=>(au.cons rfl (fun K' hK=> ?_) au.nil));try replace aN:=ζ (aN.o.trans hN)
 try replace AY:=ζ (AY.o.keep hN)
 try replace AX:=ζ (AX.o.keep hN)
 try replace Ba:=ζ (fun x hx=>(Ba.o x hx).keep hN)
 try replace A_:=ζ (fun x hx=>(A_.o x hx).keep hN)
 clear hN;go_simp;refine (adC _ AY.o AX.o (by have:=amF.o;omega) (by have:=amE.o;omega) Ba.o A_.o).mono ?_;rintro e w5 ⟨rfl,fM⟩;rw[decide_eq_true (show ayl.map (·.yc)=ayk.map (·.yc) by rw[amw.o,amv.o,hL2.o])];replace aN:=ζ (aN.o.trans fM);refine hK.o _ _ ?_ (fun hS=> ?_)
 ·exact aN.o
 clear fM AY AX Ba A_ amw amv amF amE;clear hK hS;refine rK [28,29,30,31,32] 5 ?_;iterate 5 refine aC ?_
 refine aB ?_;refine aH [33] κ σ (fun wN hN hS=>(au.cons rfl (fun K' hK=> ?_) au.nil));try replace aN:=ζ (aN.o.trans hN)
 try replace AY:=ζ (AY.o.keep hN)
 try replace AX:=ζ (AX.o.keep hN)
 try replace Ba:=ζ (fun x hx=>(Ba.o x hx).keep hN)
 try replace A_:=ζ (fun x hx=>(A_.o x hx).keep hN)
 clear hN;go_simp;refine (cC.out _ _ aN.o).mono ?_;rintro e w5 ⟨A33,m33,c33,aDh,rfl,avF,auu,fM⟩;have hl3:m33=2:=by rw[←avF.arr.1,←hL3.o,←auu,List.length_map]
 rw[hl3];replace aN:=ζ (aN.o.trans fM);refine hK.o _ _ ?_ (fun hS=> ?_)
 ·exact aN.o
 clear fM avF auu hl3;clear hK hS;refine rK [34,35,36,37] 0 ?_;iterate 4 refine aC ?_
 refine aB ?_;refine aJ κ (fun wN hN hS=> ?_);try replace aN:=ζ (aN.o.trans hN)
 try replace AY:=ζ (AY.o.keep hN)
 try replace AX:=ζ (AX.o.keep hN)
 try replace Ba:=ζ (fun x hx=>(Ba.o x hx).keep hN)
 try replace A_:=ζ (fun x hx=>(A_.o x hx).keep hN)
 all_goals (
  go_wp2;go_ret;exact⟨rfl,iG.o.trans aN.o⟩)
structure vY where
 id:Int
 x:gJ
def mZ (y:vY):List Value:=[.int .i64 y.x.k,.string ⟨y.x.a.a.src.toArray⟩,.slice y.x.a.A y.x.a.m y.x.a.k,.int .i64 y.x.a.a.l.lv,.int .u32 (y.x.a.a.l.c:Int),.int .i64 y.x.a.a.f,.int .i64 y.x.a.a.t,.int .i64 y.id,.slice y.x.s.A y.x.s.m y.x.s.k,.int .i64 y.x.s.s.f,.int .i64 y.x.s.s.t,.int .i64 y.x.s.s.l.lv,.int .u32 (y.x.s.s.l.c:Int),.int .i64 y.x.now]
theorem auG (y:vY):(mZ y).length=14:=rfl
theorem an2 (y:vY):∀u∈mZ y,u.oneCell'=true:=by
 intro u hu;simp only[mZ,List.mem_cons,List.not_mem_nil,or_false] at hu;rcases hu with rfl | rfl | rfl | rfl | rfl | rfl | rfl | rfl | rfl | rfl | rfl | rfl | rfl | rfl <;> rfl
theorem awl:eX Tryz.prog 96 168 14 152:=eX.mk' (z:=.agg #[.int .i64 0,.string ⟨#[]⟩,.slice none 0 0,.int .i64 0,.int .u32 0,.int .i64 0,.int .i64 0,.int .i64 0,.slice none 0 0,.int .i64 0,.int .i64 0,.int .i64 0,.int .u32 0,.int .i64 0]) Tryz.underlying96 κ rfl ω
def xO:Array Value:= #[.string ⟨#[]⟩,.slice none 0 0,.int .i64 0,.int .u32 0,.int .i64 0,.int .i64 0]
def xM:Array Value:= #[.int .i64 0,.slice none 0 0,.int .i64 0,.int .i64 0,.int .i64 0,.int .u32 0]
theorem oG {w:World} {g:Nat} {t:TypeId} {z0 z1 z2 z3 z4 z5:Value} (h:aF w g t #[z0,z1,z2,z3,z4,z5]) :
 w.cell? ⟨g,0,none⟩=some z0∧w.cell? ⟨g,1,none⟩=some z1∧w.cell? ⟨g,2,none⟩=some z2∧w.cell? ⟨g,3,none⟩=some z3∧w.cell? ⟨g,4,none⟩=some z4∧w.cell? ⟨g,5,none⟩=some z5∧(∀i,w.frozen? ⟨g,i,none⟩=false)∧g < w.heap.size:=
 ⟨h.cell 0,h.cell 1,h.cell 2,h.cell 3,h.cell 4,h.cell 5,fun i=>h.frozen i,h.lt⟩
theorem MW {w wM:World} {g:Nat} {t0:TypeId} {z0 z1 z2 z3 z4 z5:Value} (hZ:aF wM g t0 #[z0,z1,z2,z3,z4,z5]) (hG:ah w wM) (qA:w.heap.size≤g) (u0 u1 u2 u3 u4 u5:Value) :
 aF ((((((wM.setCell ⟨g,0,none⟩ u0).setCell ⟨g,1,none⟩ u1).setCell ⟨g,2,none⟩ u2).setCell ⟨g,3,none⟩ u3).setCell ⟨g,4,none⟩ u4).setCell ⟨g,5,none⟩ u5) g t0 #[u0,u1,u2,u3,u4,u5]∧
 ah w ((((((wM.setCell ⟨g,0,none⟩ u0).setCell ⟨g,1,none⟩ u1).setCell ⟨g,2,none⟩ u2).setCell ⟨g,3,none⟩ u3).setCell ⟨g,4,none⟩ u4).setCell ⟨g,5,none⟩ u5)∧
 ∀g' t cs,aF wM g' t cs→g'≠g→aF ((((((wM.setCell ⟨g,0,none⟩ u0).setCell ⟨g,1,none⟩ u1).setCell ⟨g,2,none⟩ u2).setCell ⟨g,3,none⟩ u3).setCell ⟨g,4,none⟩ u4).setCell ⟨g,5,none⟩ u5) g' t cs:=by
 have h0:=hZ.bD 0 u0;have h1:=h0.bD 1 u1;have h2:=h1.bD 2 u2;have h3:=h2.bD 3 u3;have h4:=h3.bD 4 u4;have h5:=h4.bD 5 u5;refine⟨h5.cast σ,?_,fun g' t cs hB hne=>(((((hB.far (p:=⟨g,0,none⟩) hne _).far (p:=⟨g,1,none⟩) hne _).far (p:=⟨g,2,none⟩) hne _).far (p:=⟨g,3,none⟩) hne _).far (p:=⟨g,4,none⟩) hne _).far (p:=⟨g,5,none⟩) hne _⟩;exact ah.setCell (ah.setCell (ah.setCell (ah.setCell (ah.setCell (ah.setCell hG (p:=⟨g,0,none⟩) qA _) (p:=⟨g,1,none⟩) qA _) (p:=⟨g,2,none⟩) qA _) (p:=⟨g,3,none⟩) qA _) (p:=⟨g,4,none⟩) qA _) (p:=⟨g,5,none⟩) qA _
theorem OO {Nw:World} {gx:Nat} {s0:ByteArray} {fA sA:Option Addr} {fm fk sm sk:Nat} {lv f t id sf st slv:Int} {lc slc:Int} {kk nn:Int} {Q0:Exit→Act→World→Prop} {x0 x1 x2 x3 x4 x5 x6 x7 x9 Fq ED Bd Hf EC IX Dj GU GR DV GN DT Ez Ey Ew Di Dh Df DR DN DL DK DJ DI DF DC Dz Dy Dx Dw GK Eu Et Es Ep Eo En Em Ej Ei Eh Ef Ee Ed He GI Fp Dv Ec Eb G_ G9 G8 GH Gz Gy Gx Fj Fh Fg Fe Gw Gv Gu Fb Fa E_ E8 E5 EZ EY EX EW IW IV IU Gt EU Ea D_ D9 D8 D7 Jd Jc G7 G6:Value}
 (bX:Hid (aF Nw gx 168 #[.int .i64 kk,.string s0,.slice fA fm fk,.int .i64 lv,.int .u32 lc,.int .i64 f,.int .i64 t,.int .i64 id,.slice sA sm sk,.int .i64 sf,.int .i64 st,.int .i64 slv,.int .u32 slc,.int .i64 nn]))
 (hQ0:∀c a d v w,Q0 (.panic c) (Act.put a d v) w→Q0 (.panic c) a w)
 (oK:∀(u9 u10 u63 u64 u65 u66:Value) (wr:World),(∃(ga gs:Nat),u9=.pointer (some ⟨ga,0,none⟩)∧u10=.pointer (some ⟨gs,0,none⟩)∧Hid (aF wr ga 27 #[.string s0,.slice fA fm fk,.int .i64 lv,.int .u32 lc,.int .i64 f,.int .i64 t])∧Hid (aF wr gs 82 #[.int .i64 id,.slice sA sm sk,.int .i64 sf,.int .i64 st,.int .i64 slv,.int .u32 slc])∧Hid (ah Nw wr))→Q0 .normal ⟨(x0::x1::x2::x3::x4::x5::x6::x7::(.pointer (some ⟨gx,0,none⟩))::u9::u10::ED::Bd::Hf::EC::IX::Dj::GU::GR::DV::GN::DT::Ez::Ey::Ew::Di::Dh::Df::DR::DN::DL::DK::DJ::DI::DF::DC::Dz::Dy::Dx::Dw::GK::Eu::Et::Es::Ep::Eo::En::Em::Ej::Ei::Eh::Ef::Ee::Ed::He::GI::Fp::Dv::Ec::Eb::G_::G9::G8::u63::u64::u65::u66::Fj::Fh::Fg::Fe::Gw::Gv::Gu::Fb::Fa::E_::E8::E5::EZ::EY::EX::EW::IW::IV::IU::Gt::EU::Ea::D_::D9::D8::D7::Jd::Jc::G7::G6::[]).toArray,[]⟩ wr) :
 Code.wp Tryz.prog (Xc Tryz.f30 14) Q0 ⟨(x0::x1::x2::x3::x4::x5::x6::x7::(.pointer (some ⟨gx,0,none⟩))::x9::Fq::ED::Bd::Hf::EC::IX::Dj::GU::GR::DV::GN::DT::Ez::Ey::Ew::Di::Dh::Df::DR::DN::DL::DK::DJ::DI::DF::DC::Dz::Dy::Dx::Dw::GK::Eu::Et::Es::Ep::Eo::En::Em::Ej::Ei::Eh::Ef::Ee::Ed::He::GI::Fp::Dv::Ec::Eb::G_::G9::G8::GH::Gz::Gy::Gx::Fj::Fh::Fg::Fe::Gw::Gv::Gu::Fb::Fa::E_::E8::E5::EZ::EY::EX::EW::IW::IV::IU::Gt::EU::Ea::D_::D9::D8::D7::Jd::Jc::G7::G6::[]).toArray,[]⟩ Nw:=by
 conv=>arg 2;whnf
 have x1:=bX.out.cell 1;have x2:=bX.out.cell 2;have x3:=bX.out.cell 3;have x4:=bX.out.cell 4;have x5:=bX.out.cell 5;have x6:=bX.out.cell 6;have x7:=bX.out.cell 7;have x8:=bX.out.cell 8;have x9:=bX.out.cell 9;have Fq:=bX.out.cell 10;have ED:=bX.out.cell 11;have Bd:=bX.out.cell 12;have xl:=bX.out.lt;simp only[List.getElem?_toArray,List.getElem?_cons_zero,List.getElem?_cons_succ] at x1 x2 x3 x4 x5 x6 x7 x8 x9 Fq ED Bd;have aN:=ζ (ah.refl Nw);clear bX;refine aG κ ?_;refine rK [0,1,2,3] 4 ?_;iterate 4 refine aC ?_
 refine aB ?_;refine aH [4,5] κ σ (fun wN hN hS=>(au.cons rfl (fun K' hK=> ?_) (au.cons rfl (fun K' hK=> ?_) au.nil)))
 ·skip
  try replace aN:=ζ (aN.o.trans hN)
  try replace bA:=ζ (bA.out.grows hN)
  try replace bS:=ζ (bS.out.grows hN)
  clear hN;go_simp;have hgA:=ζ aN.o.size;try have hab:=ζ (show _ < wN.heap.size from bS.out.lt)
  have bA:=ζ (aF.new wN 27 xO);replace aN:=ζ (aN.o.alloc (.cells xO 27));try replace bS:=ζ (bS.out.alloc (.cells xO 27))
  unfold xO at bA aN;try unfold xO at bS
  refine hK.o _ _ ?_ (fun hS=> ?_)
  ·exact aN.o
  generalize wN.heap.size=gA at *
  clear hK hS;refine aH [5] κ σ (fun wN hN hS=>(au.cons rfl (fun K' hK=> ?_) au.nil));try replace aN:=ζ (aN.o.trans hN)
  try replace bA:=ζ (bA.out.grows hN)
  try replace bS:=ζ (bS.out.grows hN)
  clear hN;go_simp;have tK:=ζ aN.o.size;try have hab:=ζ (show _ < wN.heap.size from bA.out.lt)
  have bS:=ζ (aF.new wN 82 xM);replace aN:=ζ (aN.o.alloc (.cells xM 82));try replace bA:=ζ (bA.out.alloc (.cells xM 82))
  unfold xM at bS aN;try unfold xM at bA
  refine hK.o _ _ ?_ (fun hS=> ?_)
  ·exact aN.o
  generalize wN.heap.size=gS at *
  clear hK hS;refine aH [6] κ σ (fun wN hN hS=>(au.cons rfl (fun K' hK=> ?_) au.nil));try replace aN:=ζ (aN.o.trans hN)
  try replace bA:=ζ (bA.out.grows hN)
  try replace bS:=ζ (bS.out.grows hN)
  clear hN;obtain⟨z0,z1,z2,z3,z4,z5,zf,zl⟩:=oG bA.out;obtain⟨n0,n1,n2⟩:=MW bA.out aN.o hgA.o (.string s0) (.slice fA fm fk) (.int .i64 lv) (.int .u32 lc) (.int .i64 f) (.int .i64 t);replace bS:=ζ (n2 _ _ _ bS.out (by have:=hab.o;omega));replace n0:=ζ n0;replace n1:=ζ n1;clear n2;go_simp;refine hK.o _ _ ?_ (fun hS=> ?_)
  ·exact n1.out
  clear z0 z1 z2 z3 z4 z5 zf zl bA aN;generalize ((((((wN.setCell ⟨gA,0,none⟩ (.string s0)).setCell ⟨gA,1,none⟩ (.slice fA fm fk)).setCell ⟨gA,2,none⟩ (.int .i64 lv)).setCell ⟨gA,3,none⟩ (.int .u32 lc)).setCell ⟨gA,4,none⟩ (.int .i64 f)).setCell ⟨gA,5,none⟩ (.int .i64 t))=w9 at *
  have bA:=n0;have aN:=n1;clear n0 n1;clear hK hS;refine aH [7] κ σ (fun wN hN hS=>(au.cons rfl (fun K' hK=> ?_) au.nil));try replace aN:=ζ (aN.o.trans hN)
  try replace bA:=ζ (bA.out.grows hN)
  try replace bS:=ζ (bS.out.grows hN)
  clear hN;obtain⟨z0,z1,z2,z3,z4,z5,zf,zl⟩:=oG bS.out;obtain⟨n0,n1,n2⟩:=MW bS.out aN.o tK.o (.int .i64 id) (.slice sA sm sk) (.int .i64 sf) (.int .i64 st) (.int .i64 slv) (.int .u32 slc);replace bA:=ζ (n2 _ _ _ bA.out (by have:=hab.o;omega));replace n0:=ζ n0;replace n1:=ζ n1;clear n2;go_simp;refine hK.o _ _ ?_ (fun hS=> ?_)
  ·exact n1.out
  clear z0 z1 z2 z3 z4 z5 zf zl bS aN;generalize ((((((wN.setCell ⟨gS,0,none⟩ (.int .i64 id)).setCell ⟨gS,1,none⟩ (.slice sA sm sk)).setCell ⟨gS,2,none⟩ (.int .i64 sf)).setCell ⟨gS,3,none⟩ (.int .i64 st)).setCell ⟨gS,4,none⟩ (.int .i64 slv)).setCell ⟨gS,5,none⟩ (.int .u32 slc))=w9 at *
  have bS:=n0;have aN:=n1;clear n0 n1;clear hK hS;refine aJ κ (fun wN hN hS=> ?_);try replace aN:=ζ (aN.o.trans hN)
  try replace bA:=ζ (bA.out.grows hN)
  try replace bS:=ζ (bS.out.grows hN)
  apply oK;exact⟨_,_,rfl,rfl,bA,bS,aN⟩
 ·skip
  try replace aN:=ζ (aN.o.trans hN)
  try replace bA:=ζ (bA.out.grows hN)
  try replace bS:=ζ (bS.out.grows hN)
  clear hN;go_simp;have tK:=ζ aN.o.size;try have hab:=ζ (show _ < wN.heap.size from bA.out.lt)
  have bS:=ζ (aF.new wN 82 xM);replace aN:=ζ (aN.o.alloc (.cells xM 82));try replace bA:=ζ (bA.out.alloc (.cells xM 82))
  unfold xM at bS aN;try unfold xM at bA
  refine hK.o _ _ ?_ (fun hS=> ?_)
  ·exact aN.o
  generalize wN.heap.size=gS at *
  clear hK hS;refine aH [4] κ σ (fun wN hN hS=>(au.cons rfl (fun K' hK=> ?_) au.nil));try replace aN:=ζ (aN.o.trans hN)
  try replace bA:=ζ (bA.out.grows hN)
  try replace bS:=ζ (bS.out.grows hN)
  clear hN;go_simp;have hgA:=ζ aN.o.size;try have hab:=ζ (show _ < wN.heap.size from bS.out.lt)
  have bA:=ζ (aF.new wN 27 xO);replace aN:=ζ (aN.o.alloc (.cells xO 27));try replace bS:=ζ (bS.out.alloc (.cells xO 27))
  unfold xO at bA aN;try unfold xO at bS
  refine hK.o _ _ ?_ (fun hS=> ?_)
  ·exact aN.o
  generalize wN.heap.size=gA at *
  clear hK hS;refine aH [6] κ σ (fun wN hN hS=>(au.cons rfl (fun K' hK=> ?_) au.nil));try replace aN:=ζ (aN.o.trans hN)
  try replace bA:=ζ (bA.out.grows hN)
  try replace bS:=ζ (bS.out.grows hN)
  clear hN;obtain⟨z0,z1,z2,z3,z4,z5,zf,zl⟩:=oG bA.out;obtain⟨n0,n1,n2⟩:=MW bA.out aN.o hgA.o (.string s0) (.slice fA fm fk) (.int .i64 lv) (.int .u32 lc) (.int .i64 f) (.int .i64 t);replace bS:=ζ (n2 _ _ _ bS.out (by have:=hab.o;omega));replace n0:=ζ n0;replace n1:=ζ n1;clear n2;go_simp;refine hK.o _ _ ?_ (fun hS=> ?_)
  ·exact n1.out
  clear z0 z1 z2 z3 z4 z5 zf zl bA aN;generalize ((((((wN.setCell ⟨gA,0,none⟩ (.string s0)).setCell ⟨gA,1,none⟩ (.slice fA fm fk)).setCell ⟨gA,2,none⟩ (.int .i64 lv)).setCell ⟨gA,3,none⟩ (.int .u32 lc)).setCell ⟨gA,4,none⟩ (.int .i64 f)).setCell ⟨gA,5,none⟩ (.int .i64 t))=w9 at *
  have bA:=n0;have aN:=n1;clear n0 n1;clear hK hS;refine aH [7] κ σ (fun wN hN hS=>(au.cons rfl (fun K' hK=> ?_) au.nil));try replace aN:=ζ (aN.o.trans hN)
  try replace bA:=ζ (bA.out.grows hN)
  try replace bS:=ζ (bS.out.grows hN)
  clear hN;obtain⟨z0,z1,z2,z3,z4,z5,zf,zl⟩:=oG bS.out;obtain⟨n0,n1,n2⟩:=MW bS.out aN.o tK.o (.int .i64 id) (.slice sA sm sk) (.int .i64 sf) (.int .i64 st) (.int .i64 slv) (.int .u32 slc);replace bA:=ζ (n2 _ _ _ bA.out (by have:=hab.o;omega));replace n0:=ζ n0;replace n1:=ζ n1;clear n2;go_simp;refine hK.o _ _ ?_ (fun hS=> ?_)
  ·exact n1.out
  clear z0 z1 z2 z3 z4 z5 zf zl bS aN;generalize ((((((wN.setCell ⟨gS,0,none⟩ (.int .i64 id)).setCell ⟨gS,1,none⟩ (.slice sA sm sk)).setCell ⟨gS,2,none⟩ (.int .i64 sf)).setCell ⟨gS,3,none⟩ (.int .i64 st)).setCell ⟨gS,4,none⟩ (.int .i64 slv)).setCell ⟨gS,5,none⟩ (.int .u32 slc))=w9 at *
  have bS:=n0;have aN:=n1;clear n0 n1;clear hK hS;refine aJ κ (fun wN hN hS=> ?_);try replace aN:=ζ (aN.o.trans hN)
  try replace bA:=ζ (bA.out.grows hN)
  try replace bS:=ζ (bS.out.grows hN)
  apply oK;exact⟨_,_,rfl,rfl,bA,bS,aN⟩
structure xJ (w:World) (y:vY):Prop where
 ac:y.x.a.m≤y.x.a.k
 ak:y.x.a.k≤9223372036854775807
 aA:bW w 2 dW y.x.a.A y.x.a.m y.x.a.a.fs
 al:y.x.a.a.l.ok
 sc:y.x.s.m≤y.x.s.k
 sk:y.x.s.k≤9223372036854775807
 sA:bW w 3 qU y.x.s.A y.x.s.m y.x.s.s.wh
 sl:y.x.s.s.l.ok
theorem xJ.keep {w w':World} {y:vY} (h:xJ w y) (hg:ah w w'):xJ w' y:=⟨h.ac,h.ak,h.aA.keep hg,h.al,h.sc,h.sk,h.sA.keep hg,h.sl⟩
def qg (y:vY):vY:=⟨y.id,⟨y.x.k,⟨⟨y.x.a.a.src,y.x.a.a.fs.take (min y.x.a.m 12),y.x.a.a.l,y.x.a.a.f,y.x.a.a.t⟩,y.x.a.A,min y.x.a.m 12,y.x.a.k⟩,⟨⟨y.x.s.s.wh.take (min y.x.s.m 14),y.x.s.s.f,y.x.s.s.t,y.x.s.s.l⟩,y.x.s.A,min y.x.s.m 14,y.x.s.k⟩,y.x.now⟩⟩
theorem anl {w:World} {y:vY} (h:xJ w y):(qg y).x.At w:=
 ⟨⟨h.aA.take (Nat.min_le_left _ _),by show min y.x.a.m 12≤1000;omega,h.al⟩,⟨h.sA.take (Nat.min_le_left _ _),by show min y.x.s.m 14≤65536;omega,h.sl⟩⟩
def anW (w:World) (e:Ending) (w':World):Prop:=
 ∃(A:Option Addr) (c:Nat) (A':Option Addr) (c':Nat) (ds:List vY),e =.returned (.tuple #[.slice A ds.length c,.slice A' ds.length c'])∧bW w' 13 qV A ds.length (ds.map (·.x))∧bW w' 14 mZ A' ds.length ds∧(∀d∈ds,d.x.At w)∧gu (ds.map (·.x.e))≤8∧ds.length≤25∧ah w w'
def Y2 (xs:List vY) (w:World) (e:Ending) (w':World):Prop:=
 ∃(A:Option Addr) (c:Nat) (A':Option Addr) (c':Nat) (ds:List vY),e =.returned (.tuple #[.slice A ds.length c,.slice A' ds.length c'])∧bW w' 13 qV A ds.length (ds.map (·.x))∧bW w' 14 mZ A' ds.length ds∧(∀d∈ds,∃z∈xs,d = qg z)∧gu (ds.map (·.x.e))≤8∧ds.length≤25∧ah w w'
theorem ZB (ds:List vY) (y:vY):gu ((ds++[y]).map (·.x.e))=gu (ds.map (·.x.e))+if y.x.k=0 then 1 else 0:=by
 rw[List.map_append];exact ZA _ _
theorem adD {lA:Option Addr} {lm lk:Nat} {xs:List vY} (w:World) (hX:bW w 14 mZ lA lm xs) (SQ:∀y∈xs,xJ w y) :
 Calls Tryz.prog 30 #[.slice lA lm lk] w (Y2 xs w):=by
 replace hX:=ζ hX;replace SQ:=ζ SQ;go_enter Tryz.func30,Tryz.ntmps30
 go_wp2;go_loopw [4,5,6,7] (fun o d t i wr=>∃(k T:Nat) (ds:List vY) (A:Option Addr) (c:Nat) (A':Option Addr) (c':Nat),k≤lm∧k≤25∧i =.int .i64 (k:Int)∧t =.int .i64 (T:Int)∧o =.slice A ds.length c∧d =.slice A' ds.length c'∧Hid (Own wr w.heap.size 166 13 qV (.slice A ds.length c) (ds.map (·.x)))∧Hid (Own wr w.heap.size 168 14 mZ (.slice A' ds.length c') ds)∧Hid (∀d∈ds,∃z∈xs,d = qg z)∧T≤k∧Hid (gu (ds.map (·.x.e))≤T∧gu (ds.map (·.x.e))≤8)∧ds.length≤k∧Hid (ah w wr)) (fun _ _ _ i _=>25-(intOf i).toNat)
 case atStart=>exact⟨0,0,[],none,0,none,0,ω,ω,rfl,rfl,rfl,rfl,ζ (Own.iH _ _ _ _ _),ζ (Own.iH _ _ _ _ _),ζ (fun d hd=>(List.not_mem_nil hd).elim),Nat.le_refl _,ζ ⟨Nat.le_refl _,Nat.zero_le _⟩,Nat.le_refl _,ζ (ah.refl _)⟩
 case round=>
  obtain⟨k,T,ds,A,c,A',c',hk,aEM,rfl,rfl,rfl,rfl,hO,hD,hat,hTk,hTl,hdl,hG⟩:=hrel;by_cases wB:k<lm∧k<25
  ·obtain⟨bb,off,y,rfl,GV,hx,hcell⟩:=(hX.o.keep hG.o).at_ wB.1;have c0:wr.cell? ⟨bb,off+k*14,none⟩=some (.int .i64 y.x.k):=hcell 0 _ rfl;have c1:wr.cell? ⟨bb,off+k*14+1,none⟩=some (.string ⟨y.x.a.a.src.toArray⟩):=hcell 1 _ rfl;have c2:wr.cell? ⟨bb,off+k*14+2,none⟩=some (.slice y.x.a.A y.x.a.m y.x.a.k):=hcell 2 _ rfl;have c3:wr.cell? ⟨bb,off+k*14+3,none⟩=some (.int .i64 y.x.a.a.l.lv):=hcell 3 _ rfl;have c4:wr.cell? ⟨bb,off+k*14+4,none⟩=some (.int .u32 (y.x.a.a.l.c:Int)):=hcell 4 _ rfl;have c5:wr.cell? ⟨bb,off+k*14+5,none⟩=some (.int .i64 y.x.a.a.f):=hcell 5 _ rfl;have c6:wr.cell? ⟨bb,off+k*14+6,none⟩=some (.int .i64 y.x.a.a.t):=hcell 6 _ rfl;have c7:wr.cell? ⟨bb,off+k*14+7,none⟩=some (.int .i64 y.id):=hcell 7 _ rfl;have c8:wr.cell? ⟨bb,off+k*14+8,none⟩=some (.slice y.x.s.A y.x.s.m y.x.s.k):=hcell 8 _ rfl;have c9:wr.cell? ⟨bb,off+k*14+9,none⟩=some (.int .i64 y.x.s.s.f):=hcell 9 _ rfl;have c10:wr.cell? ⟨bb,off+k*14+10,none⟩=some (.int .i64 y.x.s.s.t):=hcell 10 _ rfl;have c11:wr.cell? ⟨bb,off+k*14+11,none⟩=some (.int .i64 y.x.s.s.l.lv):=hcell 11 _ rfl;have c12:wr.cell? ⟨bb,off+k*14+12,none⟩=some (.int .u32 (y.x.s.s.l.c:Int)):=hcell 12 _ rfl;have c13:wr.cell? ⟨bb,off+k*14+13,none⟩=some (.int .i64 y.x.now):=hcell 13 _ rfl;have kY:(k:Int)<(lm:Int):=ω;have aEI:(k:Int)<25:=ω;have amo:=ζ (SQ.o y (List.mem_of_getElem? hx));have r1:=amo.o.ac;have r2:=amo.o.ak;have r3:=amo.o.sc;have r4:=amo.o.sk;have aEC:(min (y.x.a.m:Int) 12).toNat=min y.x.a.m 12:=ω;have aEB:(min (y.x.s.m:Int) 14).toNat=min y.x.s.m 14:=ω;have U7:=hG.o.size;have XR:Hid (gu ((ds++[qg y]).map (·.x.e))=gu (ds.map (·.x.e))+if y.x.k=0 then 1 else 0):=ζ (ZB ds (qg y));have jG:=ζ ((ah.refl wr).alloc (.cells (mZ (qg y)).toArray 168));have hgb:=ζ (((ah.refl wr).alloc (.cells (mZ (qg y)).toArray 168)).alloc (.cells (mZ (qg y)).toArray 168));have bXb:=ζ ((aF.new wr 168 (mZ (qg y)).toArray).alloc (.cells (mZ (qg y)).toArray 168));have hDb:=ζ (hD.o.grows hgb.o);have PL:=ζ (hO.o.grows hgb.o);have hGb:=ζ (hG.o.trans hgb.o);unfold mZ qg at bXb hDb PL hGb;simp only at bXb hDb PL hGb;have yM:=ζ (List.mem_of_getElem? hx);clear hcell hx;by_cases h0:y.x.k=0
   ·have h0z:(y.x.k==0)=true:=by simp[h0]
    by_cases hT8:T+1≤8
    ·have hTi:¬(8:Int)<(T:Int)+1:=ω;have Zb:Hid (gu ((ds++[qg y]).map (·.x.e))≤T+1∧gu ((ds++[qg y]).map (·.x.e))≤8):=ζ (by have:=hTl.o;rw[XR.o,if_pos h0];omega);replace h0:=ζ h0;clear XR;have hyc:Hid (∃z∈xs,qg y = qg z):=ζ ⟨y,yM.o,rfl⟩;go_wp2_with (at_builtin;go_loud (refine dH (x:=qg y) awl rfl (.tmp 59) (.tmp 61) rfl hDb.o rfl ⟨wr.heap.size+1,0,none⟩ rfl rfl (iK (by exact aF.kW wr _ _ _)) (an2 _) (by simp;omega) (by unfold maxLen;omega) ω (fun v4 w4 hD4 hgr qQ=> ?_);(obtain⟨g4,k4,hv4⟩:=lV hD4 σ);(rw[List.length_append] at hv4);(simp only[List.length_cons,List.length_nil,Nat.zero_add] at hv4);(subst hv4);(have YN:=ζ (bXb.out.aO hgr (fun e=>by obtain⟨cs,h2⟩:=(hD.o.nV _ e.symm).2;have:=h2.lt;omega)));(have lq:=ζ (PL.o.kept' hgr (fun j hj hv=>by obtain⟨cs,h2⟩:=(hDb.o.nV j hj).2;exact aZ PL.o h2 δ hv)));(have rH:=ζ (hGb.o.aO hgr (fun j hj=>(hDb.o.nV j hj).1)));(replace hD4:=ζ hD4);clear hgr qQ hDb PL hGb bXb hO hD hG jG hgb c0 c1 c2 c3 c4 c5 c6 c7 c8 c9 c10 c11 c12 c13));generalize wr.heap.size=gx at *
     refine OO YN π ?_;intros
     rename_i w5 hz5;obtain⟨ga,gs,rfl,rfl,bA5,bS5,GY⟩:=hz5;have TY:=ζ (YN.out.grows GY.o);have lZ:=ζ (lq.o.grows GY.o);have hD5:=ζ (hD4.o.grows GY.o);have oL:=ζ (rH.o.trans GY.o);have XL:=ζ oL.o.size;have e0:=TY.out.cell 0;have e13:=TY.out.cell 13;have el:=TY.out.lt;obtain⟨a0,a1,a2,a3,a4,a5,-,al⟩:=oG bA5.out;obtain⟨-,s1,s2,s3,s4,s5,-,sl⟩:=oG bS5.out;simp only[List.getElem?_toArray,List.getElem?_cons_zero,List.getElem?_cons_succ] at e0 e13;clear YN lq hD4 rH GY bA5 bS5 TY;go_wp2_with (at_builtin;go_loud (refine dH (x:=(qg y).x) ark rfl (.tmp 67) (.tmp 93) rfl (lZ.o.alloc _) rfl ⟨w5.heap.size,0,none⟩ rfl rfl (iK (by exact heap_alloc_new w5 _)) (apv _) (by have:=XL.o;simp;omega) (by unfold maxLen;rw[List.length_map];omega) (by rw[List.length_map];omega) (fun v6 w6 uj hgr qQ=> ?_);(obtain⟨g6,k6,U5⟩:=lV uj σ);(rw[List.length_append,List.length_map] at U5);(simp only[List.length_cons,List.length_nil,Nat.zero_add] at U5);(subst U5);(have JK:=(ah.refl w5).alloc (.cells (qV (qg y).x).toArray 166));(have hD6:=ζ ((hD5.o.grows JK).kept' hgr (fun j hj hv=>by obtain⟨cs,h2⟩:=((lZ.o.grows JK).nV j hj).2;exact aZ (hD5.o.grows JK) h2 δ hv)));(have EN:=ζ ((oL.o.trans JK).aO hgr (fun j hj=>((lZ.o.grows JK).nV j hj).1)));(replace uj:=ζ uj);clear hgr qQ JK));go_roundw
     case rel=>exact⟨k+1,T+1,ds++[qg y],some ⟨g6,0,none⟩,k6,some ⟨g4,0,none⟩,k4,ω,ω,ν,ν,by simp,by simp,ζ (by simpa using uj.o),ζ (by have h:=hD6.o;rw[show (ds++[qg y]).length=ds.length+1 by simp];exact h),ζ (fun d hd=>by rcases List.mem_append.1 hd with h | h;exact hat.o d h;rw[List.mem_singleton] at h;subst h;exact hyc.o),ω,Zb,by simp;omega,EN⟩
     case measure=>exact ψ
    ·have hTi:(8:Int)<(T:Int)+1:=ω;have Zb:Hid (gu (ds.map (·.x.e))≤T+1∧gu (ds.map (·.x.e))≤8):=ζ (by have:=hTl.o;omega);replace h0:=ζ h0;clear XR hgb bXb hDb PL hGb;go_wp2;go_roundw
     case rel=>exact⟨k+1,T+1,ds,A,c,A',c',ω,ω,ν,ν,rfl,rfl,ζ (hO.o.alloc _),ζ (hD.o.alloc _),hat,ω,Zb,ω,ζ (hG.o.alloc _)⟩
     case measure=>exact ψ
   ·have h0z:(y.x.k==0)=false:=by simp[h0]
    have Zb:Hid (gu ((ds++[qg y]).map (·.x.e))≤T∧gu ((ds++[qg y]).map (·.x.e))≤8):=ζ (by have:=hTl.o;rw[XR.o,if_neg h0];omega);replace h0:=ζ h0;clear XR;have hyc:Hid (∃z∈xs,qg y = qg z):=ζ ⟨y,yM.o,rfl⟩;go_wp2_with (at_builtin;go_loud (refine dH (x:=qg y) awl rfl (.tmp 59) (.tmp 61) rfl hDb.o rfl ⟨wr.heap.size+1,0,none⟩ rfl rfl (iK (by exact aF.kW wr _ _ _)) (an2 _) (by simp;omega) (by unfold maxLen;omega) ω (fun v4 w4 hD4 hgr qQ=> ?_);(obtain⟨g4,k4,hv4⟩:=lV hD4 σ);(rw[List.length_append] at hv4);(simp only[List.length_cons,List.length_nil,Nat.zero_add] at hv4);(subst hv4);(have YN:=ζ (bXb.out.aO hgr (fun e=>by obtain⟨cs,h2⟩:=(hD.o.nV _ e.symm).2;have:=h2.lt;omega)));(have lq:=ζ (PL.o.kept' hgr (fun j hj hv=>by obtain⟨cs,h2⟩:=(hDb.o.nV j hj).2;exact aZ PL.o h2 δ hv)));(have rH:=ζ (hGb.o.aO hgr (fun j hj=>(hDb.o.nV j hj).1)));(replace hD4:=ζ hD4);clear hgr qQ hDb PL hGb bXb hO hD hG jG hgb c0 c1 c2 c3 c4 c5 c6 c7 c8 c9 c10 c11 c12 c13));generalize wr.heap.size=gx at *
    refine OO YN π ?_;intros
    rename_i w5 hz5;obtain⟨ga,gs,rfl,rfl,bA5,bS5,GY⟩:=hz5;have TY:=ζ (YN.out.grows GY.o);have lZ:=ζ (lq.o.grows GY.o);have hD5:=ζ (hD4.o.grows GY.o);have oL:=ζ (rH.o.trans GY.o);have XL:=ζ oL.o.size;have e0:=TY.out.cell 0;have e13:=TY.out.cell 13;have el:=TY.out.lt;obtain⟨a0,a1,a2,a3,a4,a5,-,al⟩:=oG bA5.out;obtain⟨-,s1,s2,s3,s4,s5,-,sl⟩:=oG bS5.out;simp only[List.getElem?_toArray,List.getElem?_cons_zero,List.getElem?_cons_succ] at e0 e13;clear YN lq hD4 rH GY bA5 bS5 TY;go_wp2_with (at_builtin;go_loud (refine dH (x:=(qg y).x) ark rfl (.tmp 67) (.tmp 93) rfl (lZ.o.alloc _) rfl ⟨w5.heap.size,0,none⟩ rfl rfl (iK (by exact heap_alloc_new w5 _)) (apv _) (by have:=XL.o;simp;omega) (by unfold maxLen;rw[List.length_map];omega) (by rw[List.length_map];omega) (fun v6 w6 uj hgr qQ=> ?_);(obtain⟨g6,k6,U5⟩:=lV uj σ);(rw[List.length_append,List.length_map] at U5);(simp only[List.length_cons,List.length_nil,Nat.zero_add] at U5);(subst U5);(have JK:=(ah.refl w5).alloc (.cells (qV (qg y).x).toArray 166));(have hD6:=ζ ((hD5.o.grows JK).kept' hgr (fun j hj hv=>by obtain⟨cs,h2⟩:=((lZ.o.grows JK).nV j hj).2;exact aZ (hD5.o.grows JK) h2 δ hv)));(have EN:=ζ ((oL.o.trans JK).aO hgr (fun j hj=>((lZ.o.grows JK).nV j hj).1)));(replace uj:=ζ uj);clear hgr qQ JK));go_roundw
    case rel=>exact⟨k+1,T,ds++[qg y],some ⟨g6,0,none⟩,k6,some ⟨g4,0,none⟩,k4,ω,ω,ν,ν,by simp,by simp,ζ (by simpa using uj.o),ζ (by have h:=hD6.o;rw[show (ds++[qg y]).length=ds.length+1 by simp];exact h),ζ (fun d hd=>by rcases List.mem_append.1 hd with h | h;exact hat.o d h;rw[List.mem_singleton] at h;subst h;exact hyc.o),ω,Zb,by simp;omega,EN⟩
    case measure=>exact ψ
  ·have aQ:Hid (Y2 xs w (.returned (.tuple #[.slice A ds.length c,.slice A' ds.length c'])) wr):=ζ ⟨A,c,A',c',ds,rfl,by have h:=hO.o.uN hkE;exact h,hD.o.uN auG,hat.o,hTl.o.2,ω,hG.o⟩;clear hO hD hG;by_cases Q5:k<lm
   ·have h1:(k:Int)<(lm:Int):=ω;have h2:¬(k:Int)<25:=ω;go_wp2;go_ret2;exact aQ.o
   ·have h1:¬(k:Int)<(lm:Int):=ω;go_wp2;go_ret2;exact aQ.o
theorem WC {lA:Option Addr} {lm lk:Nat} {xs:List vY} (w:World) (hX:bW w 14 mZ lA lm xs) (SQ:∀y∈xs,xJ w y) :
 Calls Tryz.prog 30 #[.slice lA lm lk] w (anW w):=
 (adD w hX SQ).mono fun _ _ ⟨A,c,A',c',ds,h1,h2,h3,h4,h5,h6,h7⟩=>⟨A,c,A',c',ds,h1,h2,h3,fun d hd=>by obtain⟨z,hz,rfl⟩:=h4 d hd;exact anl (SQ z hz),h5,h6,h7⟩
theorem ac5 {w w':World} {A:Option Addr} {ds:List vY} (hA:bW w' 13 qV A ds.length (ds.map (·.x))) (hat:∀d∈ds,d.x.At w) (hg:ah w w') (hl:ds.length≤25):yX w' A ds.length (ds.map (·.x)):=
 ⟨hA,fun y hy=>by obtain⟨d,hd,rfl⟩:=List.mem_map.1 hy;exact (hat d hd).keep hg,ω⟩
theorem Zw {fb:cZ→Bool} {ft:List bK→cZ→Bool} (X0:∀y,mO fb y) (hta:∀y,lN ft y) {p:bU} {A0 A1:Option Addr} {m0 c0 m1 c1:Nat} {xs ys:List vY} {tt:fZ} (w:World) (he:oD w) (hu:oz w) (hp:p.At w) (hc:p.arl) (hX:bW w 14 mZ A0 m0 xs) (hx:∀y∈xs,xJ w y) (hY:bW w 14 mZ A1 m1 ys) (hy:∀y∈ys,xJ w y) (mP:tt.ok) :
 Calls Tryz.prog 8 #[p.val,.agg #[.slice A0 m0 c0,.slice A1 m1 c1],.agg #[.int .i64 tt.lv,.int .u32 (tt.c:Int)]] w fun e w'=>e =.returned (.bool true)∧ah w w':=by
 have cL:=ζ (fun W (hW:ah w W)=>Zt X0 hta W (he.grows hW) (hu.grows hW));have cC:=fun W=>af4 (p:=p) W hc
 have hq:=hp.cut 14;generalize p.cut 14=q at *
 have oQ:p.val=.agg #[.slice p.s.A p.s.m p.s.k,.slice p.r.A p.r.m p.r.k,.slice p.e.A p.e.m p.e.k,.slice p.a.A p.a.m p.a.k,.slice p.oA p.om p.ok,.slice p.iA p.im p.ik]:=rfl;have hqv:q.val=.agg #[.slice q.s.A q.s.m q.s.k,.slice q.r.A q.r.m q.r.k,.slice q.e.A q.e.m q.e.k,.slice q.a.A q.a.m q.a.k,.slice q.oA q.om q.ok,.slice q.iA q.im q.ik]:=rfl;rw[oQ,hqv] at cC;rw[oQ];replace cC:=ζ cC;have cF0:=ζ (fun W lk (hW:ah w W)=>WC (lk:=lk) W (hX.keep hW) (fun y h=>(hx y h).keep hW));have cF1:=ζ (fun W lk (hW:ah w W)=>WC (lk:=lk) W (hY.keep hW) (fun y h=>(hy y h).keep hW));have Vw:ah w (((w.alloc (.cells #[.slice p.s.A p.s.m p.s.k,.slice p.r.A p.r.m p.r.k,.slice p.e.A p.e.m p.e.k,.slice p.a.A p.a.m p.a.k,.slice p.oA p.om p.ok,.slice p.iA p.im p.ik] 50)).alloc (.cells #[.slice A0 m0 c0,.slice A1 m1 c1] 97)).alloc (.cells #[.int .i64 tt.lv,.int .u32 (tt.c:Int)] 25)):=(((ah.refl w).alloc _).alloc _).alloc _;have hP0:=((aF.new w 50 #[.slice p.s.A p.s.m p.s.k,.slice p.r.A p.r.m p.r.k,.slice p.e.A p.e.m p.e.k,.slice p.a.A p.a.m p.a.k,.slice p.oA p.om p.ok,.slice p.iA p.im p.ik]).alloc (.cells #[.slice A0 m0 c0,.slice A1 m1 c1] 97)).alloc (.cells #[.int .i64 tt.lv,.int .u32 (tt.c:Int)] 25);have hL0:=(aF.kW w (.cells #[.slice p.s.A p.s.m p.s.k,.slice p.r.A p.r.m p.r.k,.slice p.e.A p.e.m p.e.k,.slice p.a.A p.a.m p.a.k,.slice p.oA p.om p.ok,.slice p.iA p.im p.ik] 50) 97 #[.slice A0 m0 c0,.slice A1 m1 c1]).alloc (.cells #[.int .i64 tt.lv,.int .u32 (tt.c:Int)] 25);have hT0:=aF.zK w (.cells #[.slice p.s.A p.s.m p.s.k,.slice p.r.A p.r.m p.r.k,.slice p.e.A p.e.m p.e.k,.slice p.a.A p.a.m p.a.k,.slice p.oA p.om p.ok,.slice p.iA p.im p.ik] 50) (.cells #[.slice A0 m0 c0,.slice A1 m1 c1] 97) 25 #[.int .i64 tt.lv,.int .u32 (tt.c:Int)];obtain⟨gP,hgP⟩:∃gP,gP=w.heap.size:=⟨_,rfl⟩;rw[←hgP] at hP0 hL0 hT0;replace hgP:=ζ hgP;replace hq:=ζ hq;replace mP:=ζ mP;replace hqv:=ζ hqv;clear oQ he hu hp hc hX hx hY hy X0 hta;go_enter Tryz.func8,Tryz.ntmps8
 go_wp2_with fail;refine (cL.out _ Vw).mono ?_;rintro e w1 ⟨rfl,hb1⟩;have Zd:=hP0.grows hb1;have Ya:=ζ (hL0.grows hb1);have V7:=ζ (hT0.grows hb1);have fF:=ζ (Vw.trans hb1);rw[←hgP.o];have p0:=Zd.c0;have p1:=Zd.c1;have p2:=Zd.c2;have p3:=Zd.c3;have p4:=Zd.c4;have p5:=Zd.c5;have pl:=Zd.lt;clear hb1 Vw hP0 hL0 hT0 cL;go_wp2_with fail;refine (cC.out w1).mono ?_;rintro e w2 ⟨rfl,hb2⟩;replace Zd:=Zd.grows hb2;replace Ya:=ζ (Ya.o.grows hb2);replace V7:=ζ (V7.o.grows hb2);replace fF:=ζ (fF.o.trans hb2);clear hb2 p0 p1 p2 p3 p4 p5 pl cC;replace Zd:=ζ Zd;rename_i hK;refine hK _ _ ?_;clear hK;with_reducible show wpList _ _ _ _ _ _
 refine wpList_store_row rfl 50 (.tmp 3) (.tmp 15) rfl gP #[.slice q.s.A q.s.m q.s.k,.slice q.r.A q.r.m q.r.k,.slice q.e.A q.e.m q.e.k,.slice q.a.A q.a.m q.a.k,.slice q.oA q.om q.ok,.slice q.iA q.im q.ik] rfl rfl 50 _ Zd.o κ rfl (by simp[Value.oneCell']) ?_;have g3:=mD w2 gP #[.slice q.s.A q.s.m q.s.k,.slice q.r.A q.r.m q.r.k,.slice q.e.A q.e.m q.e.k,.slice q.a.A q.a.m q.a.k,.slice q.oA q.om q.ok,.slice q.iA q.im q.ik];have hP:Hid (aF (w2.setRow gP #[.slice q.s.A q.s.m q.s.k,.slice q.r.A q.r.m q.r.k,.slice q.e.A q.e.m q.e.k,.slice q.a.A q.a.m q.a.k,.slice q.oA q.om q.ok,.slice q.iA q.im q.ik]) gP 50 #[.slice q.s.A q.s.m q.s.k,.slice q.r.A q.r.m q.r.k,.slice q.e.A q.e.m q.e.k,.slice q.a.A q.a.m q.a.k,.slice q.oA q.om q.ok,.slice q.iA q.im q.ik]):=ζ (setRow_heap _ _ _ _ _ _ Zd.o);have hL:=ζ (Ya.o.aO g3 (fun e=>by injection e with e;exact Ya.o.Ku Zd.o δ e));have hT:=ζ (V7.o.aO g3 (fun e=>by injection e with e;exact V7.o.Ku Zd.o δ e));have hG:=ζ (fF.o.aO g3 (fun j hj=>by injection hj with hj;have:=hgP.o;omega));clear Zd g3 fF Ya V7;generalize w2.setRow gP #[.slice q.s.A q.s.m q.s.k,.slice q.r.A q.r.m q.r.k,.slice q.e.A q.e.m q.e.k,.slice q.a.A q.a.m q.a.k,.slice q.oA q.om q.ok,.slice q.iA q.im q.ik]=w3 at *
 have l0:=hL.o.cell 0;have ll:=hL.o.lt;simp only[List.getElem?_toArray,List.getElem?_cons_zero] at l0;go_wp2_with fail;refine (cF0.out _ _ hG.o).mono ?_;rintro e w4 ⟨Aa,ca,Aa',ca',av,rfl,hAa,-,haa,-,Bl,hb4⟩;have hEa:=ac5 hAa haa hb4 Bl;replace hP:=ζ (hP.o.grows hb4);replace hL:=ζ (hL.o.grows hb4);replace hT:=ζ (hT.o.grows hb4);replace hG:=ζ (hG.o.trans hb4);replace hEa:=ζ hEa;clear l0 ll hb4 hAa haa cF0;have l1:=hL.o.cell 1;have ll:=hL.o.lt;simp only[List.getElem?_toArray,List.getElem?_cons_zero,List.getElem?_cons_succ] at l1;go_wp2_with fail;refine (cF1.out _ _ hG.o).mono ?_;rintro e w5 ⟨Ab,cb,Ab',cb',bv,rfl,hAb,-,hab,-,hbl,fM⟩;have hEb:=ζ (ac5 hAb hab fM hbl);replace hP:=ζ (hP.o.grows fM);replace hT:=ζ (hT.o.grows fM);replace hG:=ζ (hG.o.trans fM);replace hEa:=ζ (hEa.o.keep fM);clear l1 ll fM hAb hab cF1 hL;have p0:=hP.o.cell 0;have p1:=hP.o.cell 1;have p2:=hP.o.cell 2;have p3:=hP.o.cell 3;have p4:=hP.o.cell 4;have p5:=hP.o.cell 5;have q0:=hT.o.cell 0;have q1:=hT.o.cell 1;simp only[List.getElem?_toArray,List.getElem?_cons_zero,List.getElem?_cons_succ] at p0 p1 p2 p3 p4 p5 q0 q1;have pz:=hP.o.lt;have qz:=hT.o.lt;have cU:=yw (p:=q) (tt:=tt) (lk:=cb) w5 (hq.o.keep hG.o) mP.o hEb.o;rw[hqv.o] at cU;replace cU:=ζ cU;go_wp2_with fail;refine cU.out.mono ?_;rintro e w6 ⟨Ac,mc,cc,cv,rfl,hEc,hcm,Bj⟩;replace hP:=ζ (hP.o.grows Bj);replace hT:=ζ (hT.o.grows Bj);replace hG:=ζ (hG.o.trans Bj);replace hEa:=ζ (hEa.o.keep Bj);replace hEb:=ζ (hEb.o.keep Bj);have hmc:Hid (mc=(kD q.aU (bv.map (·.x) |>.map (·.e)) tt).length):=ζ (by rw[←hcm,List.length_map];exact hEc.arr.1.symm);clear p0 p1 p2 p3 p4 p5 q0 q1 pz qz cU Bj hEc hcm;have cS:=ζ (fun W (hW:ah w6 W)=>by
  have h:=uK (p:=q) (tt:=tt) (c:=ca) (c':=ca) W (hq.o.keep (hG.o.trans hW)) mP.o (hEa.o.keep hW) (hEa.o.keep hW);rw[acd,hqv.o] at h;exact h)
 have cX:=ζ (fun W (hW:ah w6 W)=>by
  have h:=uK (p:=q) (tt:=tt) (c:=ca) (c':=cb) W (hq.o.keep (hG.o.trans hW)) mP.o (hEa.o.keep hW) (hEb.o.keep hW);rw[hqv.o] at h;exact h)
 have cY:=ζ (fun W (hW:ah w6 W)=>by
  have h:=uK (p:=q) (tt:=tt) (c:=cb) (c':=ca) W (hq.o.keep (hG.o.trans hW)) mP.o (hEb.o.keep hW) (hEa.o.keep hW);rw[ab_,hqv.o] at h;exact h)
 have hAl:lu q.aU (av.map (·.x) |>.map (·.e)) (bv.map (·.x) |>.map (·.e)) tt=true→(kD q.aU (av.map (·.x) |>.map (·.e)) tt).length=(kD q.aU (bv.map (·.x) |>.map (·.e)) tt).length:=ags;generalize lu q.aU (av.map (·.x) |>.map (·.e)) (bv.map (·.x) |>.map (·.e)) tt=R at *
 rw[←hmc.o] at hAl;replace hAl:=ζ hAl;have cV:=ζ (fun W (hW:ah w6 W)=>by
  have h:=yw (p:=q) (tt:=tt) (lk:=ca) W (hq.o.keep (hG.o.trans hW)) mP.o (hEa.o.keep hW);rw[hqv.o] at h;exact h)
 generalize kD q.aU (av.map (·.x) |>.map (·.e)) tt=CA at *
 clear hq mP hqv hEa hEb hmc;rename_i hK;try (refine hK _ _ ?_;clear hK;with_reducible show wpList _ _ _ _ _ _)
 have p0:=hP.o.cell 0;have p1:=hP.o.cell 1;have p2:=hP.o.cell 2;have p3:=hP.o.cell 3;have p4:=hP.o.cell 4;have p5:=hP.o.cell 5;have q0:=hT.o.cell 0;have q1:=hT.o.cell 1;simp only[List.getElem?_toArray,List.getElem?_cons_zero,List.getElem?_cons_succ] at p0 p1 p2 p3 p4 p5 q0 q1;have pz:=hP.o.lt;have qz:=hT.o.lt;go_wp2_with fail;refine aG κ ?_;refine rK (.range 19) 0 ?_;iterate 4 refine aC ?_
 refine aY (.bool true) rfl χ (fun wq eG=> ?_) ?_
 ·obtain⟨nR,mY⟩:=bQ eG;go_simp;exact Calls.mono (cS.out wq eG) (fun e w'' h=>h)
 go_simp;iterate 6 refine aC ?_
 refine aY (.bool R) rfl χ (fun wq eG=> ?_) ?_
 ·obtain⟨nR,mY⟩:=bQ eG;go_simp;exact Calls.mono (cX.out wq eG) (fun e w'' h=>h)
 go_simp;iterate 4 refine aC ?_
 refine aY (.bool R) rfl χ (fun wq eG=> ?_) ?_
 ·obtain⟨nR,mY⟩:=bQ eG;go_simp;exact Calls.mono (cY.out wq eG) (fun e w'' h=>h)
 go_simp;iterate 2 refine aC ?_
 refine aB ?_;refine aJ κ (fun wN hN hS=> ?_);replace hP:=ζ (hP.o.grows hN);replace hT:=ζ (hT.o.grows hN);clear p0 p1 p2 p3 p4 p5 q0 q1 pz qz cS cY;have p0:=hP.o.cell 0;have p1:=hP.o.cell 1;have p2:=hP.o.cell 2;have p3:=hP.o.cell 3;have p4:=hP.o.cell 4;have p5:=hP.o.cell 5;have q0:=hT.o.cell 0;have q1:=hT.o.cell 1;simp only[List.getElem?_toArray,List.getElem?_cons_zero,List.getElem?_cons_succ] at p0 p1 p2 p3 p4 p5 q0 q1;have pz:=hP.o.lt;have qz:=hT.o.lt;replace hN:=ζ hN;go_wp2_with fail;refine (cX.out _ hN.o).mono ?_;rintro e w8 ⟨rfl,hb8⟩;replace hP:=ζ (hP.o.grows hb8);replace hT:=ζ (hT.o.grows hb8);replace hN:=ζ (hN.o.trans hb8);clear p0 p1 p2 p3 p4 p5 q0 q1 pz qz cX hb8;have p0:=hP.o.cell 0;have p1:=hP.o.cell 1;have p2:=hP.o.cell 2;have p3:=hP.o.cell 3;have p4:=hP.o.cell 4;have p5:=hP.o.cell 5;have q0:=hT.o.cell 0;have q1:=hT.o.cell 1;simp only[List.getElem?_toArray,List.getElem?_cons_zero,List.getElem?_cons_succ] at p0 p1 p2 p3 p4 p5 q0 q1;have pz:=hP.o.lt;have qz:=hT.o.lt;cases R with
 | false=>
  go_wp2_with fail;go_ret;exact⟨rfl,hG.o.trans hN.o⟩
 | true=>
  go_wp2_with fail;refine (cV.out _ hN.o).mono ?_;rintro e w9 ⟨Ad,md,cd,dv,rfl,hEd,hdm,hb9⟩;have hmd:md=mc:=by
   rw[←hAl.o (by trivial),←hdm,List.length_map];exact hEd.arr.1.symm
  subst hmd;replace hN:=ζ (hN.o.trans hb9);clear p0 p1 p2 p3 p4 p5 q0 q1 pz qz hb9 hEd hdm cV;go_wp2_with fail;go_ret;exact⟨by simp,hG.o.trans hN.o⟩
end Go.Proofs.YtbhikkgpcmkonaaGreatDoor
