/- DriveOnce: a file that says so is read once,one with a guard comes out once. Plain. -/
import Derived.Test.YtfkhlbhjhdpkoaaGreatDoorZobo
import Derived.Test.YtfkhlbhjhdpkoaaGreatDoorZobs
set_option linter.unusedVariables false
set_option linter.unusedSimpArgs false
namespace Go.Proofs.YtfkhlbhjhdpkoaaGreatDoor
open Go.RowKit
theorem JFg:Jd5=some true:=by decide +kernel
theorem Jxl(file:Int)(text:List UInt8):XL file text=some (JG file text):=by
 by_cases h:text.length≤1099511627776
 ·exact Jzf file text h
 unfold XL JG
 simp only[ltI,decide_eq_true_eq]
 rw[if_pos (by omega),if_pos (by omega)]
theorem JBj(s:List UInt8)(hl:s.length≤1099511627776){b:Bool}(h:Za s=some b)(hb:b=false):shut s:=by
 subst hb
 intro a
 refine⟨?_,?_⟩
 ·rintro rfl
  unfold Za at h
  have hw:IntKind.i64.wrap (((a++[92]).length:Int)-1)=(a.length:Int):=by
   rw[wr _ (by omega)]
   simp only[List.length_append,List.length_cons,List.length_nil]; omega
  have hg:(a++[92]).getD a.length 0=92:=by simp[List.getD_eq_getElem?_getD]
  simp only[hw,Int.toNat_natCast,hg]at h
  simp only[ltI,eqI,decide_eq_true_eq,KH]at h
  rw[if_pos (by simp),if_pos (by simp),if_pos (by decide)]at h
  cases h
 rintro rfl
 unfold Za at h
 have hl2:(a++[92,13]).length=a.length+2:=by simp
 have hw:IntKind.i64.wrap (((a++[92,13]).length:Int)-1)=((a.length+1:Nat):Int):=by
  rw[hl2,wr _ (by omega)]; omega
 have hw2:IntKind.i64.wrap (((a++[92,13]).length:Int)-2)=(a.length:Int):=by
  rw[hl2,wr _ (by omega)]; omega
 have hg:(a++[92,13]).getD (a.length+1) 0=13:=by simp[List.getD_eq_getElem?_getD]
 have hg2:(a++[92,13]).getD a.length 0=92:=by simp[List.getD_eq_getElem?_getD]
 simp only[hw,hw2,Int.toNat_natCast,hg,hg2]at h
 simp only[ltI,eqI,decide_eq_true_eq,KH]at h
 rw[if_pos (by omega),if_pos (by omega),if_neg (by decide),if_pos (by omega),if_pos (by omega),if_pos (by decide),if_pos (by omega)]at h
 cases h
def Jmy:List UInt8→List (List UInt8)→List UInt8
 | a,[]=>a
 | a,x::l=>Jmy (a++x++[32]) l
theorem Jn1(l:List Token)(hl:l.length≤3000)(ht:∀ t∈l,t.Text.length≤3000):∀ (k i:Nat) (a:List UInt8),i+k=l.length→a.length≤i * 3001 →
  Jt (ZP l) (a,(l.length:Int),(i:Int))=some (Jmy a ((l.drop i).map (·.Text)))
 | 0,i,a,h,ha=>by
  obtain rfl:i=l.length:=by omega
  rw[JE]
  simp only[ZP,ltI,decide_eq_true_eq]
  rw[if_neg (by omega)]
  simp[Jmy,inrO]
 | k+1,i,a,h,ha=>by
  have h1:=ht _ (JvM l i default (by omega))
  rw[JE]
  simp only[ZP,ltI,decide_eq_true_eq,Int.toNat_natCast]
  rw[if_pos (by omega),if_pos (by omega),if_pos (by omega),if_pos (by omega),wN1 i (by omega)]
  simp only
  rw[Jn1 l hl ht k (i+1) _ (by omega) (by simp only[List.length_append,List.length_cons,List.length_nil]; omega),Jl2 l i default (by omega),List.map_cons,Jmy]
theorem JBf(l:List Token)(hl:l.length≤3000)(ht:∀ t∈l,t.Text.length≤3000):Jcb l=some (Jmy [] (l.map (·.Text))):=by
 have:=Jn1 l hl ht l.length 0 [] (by omega) (by simp)
 rw[List.drop_zero]at this
 exact this
def gdT:List UInt8:=[71,85,65,82,68,95,72]
def mT:List UInt8:=[35,105,110,99,108,117,100,101,32,34,104,34,10,35,105,110,99,108,117,100,101,32,34,104,34,10]
def preG:List UInt8:=[35,105,102,110,100,101,102,32,71,85,65,82,68,95,72,10,35,100,101,102,105,110,101,32,71,85,65,82,68,95,72]
def sufG:List UInt8:=[35,101,110,100,105,102,10]
def preO:List UInt8:=[35,112,114,97,103,109,97,32,111,110,99,101]
def JFy:List YM:=[(5,[35],true),(1,Jnm,false),(1,JzJ,false)]
theorem JFd:lxK (lxF (preG.length+1) preG 0 0 true)=(Jmd gdT,true):=by decide +kernel
theorem JFm:lxK (lxF (sufG.length+2) (10::sufG) 0 0 true)=(endK,true):=by decide +kernel
theorem JER:lxK (lxF (preO.length+1) preO 0 0 true)=(JFy,true):=by decide +kernel
theorem JEW:lxK (lxF (([]:List UInt8).length+2) (10::[]) 0 0 true)=([],true):=by decide +kernel
theorem mT_k:lxK (raws mT)=(incK [104]++(incK [104]++[]),true):=by decide +kernel
theorem JEp:Jby [104]=some true:=by decide +kernel
theorem JDK:Jby [109]=some true:=by decide +kernel
def fsO(T:List UInt8):List Source:=[⟨[104],T⟩,⟨[109],mT⟩]
theorem Jsg(T:List UInt8)(hT:T.length≤3000):Jbw (fsO T)=some ⟨0,-1,0⟩:=by
 refine JCs (fsO T) (by simp[fsO]) (fun j hj=>?_)
 have:j=0∨j=1:=by simp only[fsO,List.length_cons,List.length_nil]at hj; omega
 rcases this with rfl | rfl
 ·exact⟨JEp,hT,fun h=>absurd h (by omega)⟩
 refine⟨JDK,?_,fun _=>?_⟩
 ·show mT.length≤3000
  decide
 show Op.bytesLess [104] [109]=true
 decide +kernel
theorem JBg:JbU [109] [104]=some [104]:=by decide +kernel
theorem Jnu(T:List UInt8):Xi (fsO T) 1 [104] true=some ((0:Nat):Int):=by
 unfold Xi
 rw[if_neg (by decide)]
 show ZQ (fsO T) 1 [104] true false=_
 simp only[ZQ,Bool.false_eq_true,if_false,Bool.not_true]
 rw[if_pos (by simp[fsO])]
 rw[show((fsO T).getD (1:Int).toNat default).Path=[109] from rfl,JBg]
 have hf:Jcs (fsO T) [104]=some 0:=by
  unfold Jcs KE
  rw[JE]; rfl
 simp only[Option.bind_some,hf]
 rfl
end Go.Proofs.YtfkhlbhjhdpkoaaGreatDoor
