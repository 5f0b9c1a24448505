/- A tree's node: a struct that holds slices of itself. -/
import Derived.Test.YtaofbminodhcnaaZcah
import Derived.Test.YtaofbminodhcnaaZcak
set_option linter.unusedVariables false
set_option linter.unusedSimpArgs false
namespace Go.Proofs.Ytaofbminodhcnaa
open Go.RowKit
structure Node where
 Kind:Int
 Tok:Int
 Kids:List Node
 deriving Inhabited
mutual
def Jp:Node→D
 | ⟨k,t,ks⟩=>.ag [.v (.int .i64 k),.v (.int .i64 t),.sl 3 (Jc6 ks)]
def Jc6:List Node→List D
 | []=>[]
 | x::r=>Jp x::Jc6 r
end
theorem Jkc:∀ l,Jc6 l=List.map Jp l
 | []=>by simp[Jc6]
 | x::r=>by simp[Jc6,Jkc r]
theorem Vu(x:Node):Jp x=.ag [.v (.int .i64 x.Kind),.v (.int .i64 x.Tok),.sl 3 (List.map Jp x.Kids)]:=by
 obtain⟨k,t,ks⟩:=x
 rw[Jp,Jkc]
mutual
theorem JhF:∀ x y:Node,Jp x=Jp y→x=y
 | ⟨k,t,ks⟩,⟨k',t',ks'⟩,h=>by
  simp only[Jp,D.ag.injEq,List.cons.injEq,D.v.injEq,D.sl.injEq,Value.int.injEq,true_and,and_true]at h
  obtain⟨rfl,rfl,h2⟩:=h
  rw[Jka ks ks' h2]
theorem Jka:∀ l m:List Node,Jc6 l=Jc6 m→l=m
 | [],[],_=>rfl
 | x::l,y::m,h=>by
  simp only[Jc6,List.cons.injEq]at h
  rw[JhF x y h.1,Jka l m h.2]
 | [],_::_,h=>by simp[Jc6]at h
 | _::_,[],h=>by simp[Jc6]at h
end
theorem JqF(x y:Node)(h:VC (Jp x)=VC (Jp y)):x=y:=by
 refine JhF x y ?_
 rw[Vu,Vu]at h ⊢
 simp only[VC,JcS,List.map_cons,List.map_nil,D.ag.injEq,List.cons.injEq,D.v.injEq,D.sl.injEq,Value.int.injEq,true_and,and_true]at h
 obtain⟨h0,h1,h2⟩:=h
 rw[h0,h1,h2]
theorem JaC(x:Node):(Jp x).cells.all D.one=true:=by rw[Vu]; rfl
instance:DInj Jp:=⟨JqF,JhF⟩
abbrev EB:=List (List UInt8×Bool)
abbrev EN:=List (List UInt8×Int)
def cvK(l:EB):ME:=l.map fun p=>(p.1,.bool p.2)
def cvN(l:EN):ME:=l.map fun p=>(p.1,.int .i64 p.2)
def xGet{A:Type}:List (List UInt8×A)→List UInt8→Option A
 | [],_=>none
 | (k,v)::r,s=>if s=k then some v else xGet r s
def ebV(l:EB)(s:List UInt8):Bool:=(xGet l s).getD false
def ebH(l:EB)(s:List UInt8):Bool:=(xGet l s).isSome
def enV(l:EN)(s:List UInt8):Int:=(xGet l s).getD 0
def enH(l:EN)(s:List UInt8):Bool:=(xGet l s).isSome
theorem JlF{A:Type}(f:A→Lit)(s:List UInt8):∀ l:List (List UInt8×A),mGet (l.map fun p=>(p.1,f p.2)) s=(xGet l s).map f
 | []=>rfl
 | (k,v)::r=>by
  show(if s=k then some (f v) else mGet (r.map fun p=>(p.1,f p.2)) s)=((if s=k then some v else xGet r s):Option A).map f
  split
  ·rfl
  ·exact JlF f s r
theorem JqU(s:List UInt8)(l:EB):mGet (cvK l) s=(xGet l s).map .bool:=JlF _ s l
theorem JjB(s:List UInt8)(l:EN):mGet (cvN l) s=(xGet l s).map (.int .i64):=JlF _ s l
theorem Jt5:MapT Try.prog 52∧mapZ Try.prog 52=.bool false:=MapT.mk' Try.underlying52 Try.underlying9 (fun w=>Try.zeroValue4 w) ⟨_,rfl⟩
theorem Js6:MapT Try.prog 58∧mapZ Try.prog 58=.int .i64 0:=MapT.mk' Try.underlying58 Try.underlying9 (fun w=>Try.zeroValue3 w) ⟨_,rfl⟩
theorem JbH:MapT Try.prog 52:=Jt5.1
theorem JbL:MapT Try.prog 58:=Js6.1
theorem JaH(l:EB)(s:List UInt8):Jd2 Try.prog 52 (cvK l) s=.bool (ebV l s):=by
 rw[Jd2,JqU,Jt5.2,ebV]
 cases xGet l s <;> rfl
theorem JaG(l:EN)(s:List UInt8):Jd2 Try.prog 58 (cvN l) s=.int .i64 (enV l s):=by
 rw[Jd2,JjB,Js6.2,enV]
 cases xGet l s <;> rfl
theorem JaE(l:EB)(s:List UInt8):(mGet (cvK l) s).isSome=ebH l s:=by
 rw[JqU,ebH]
 cases xGet l s <;> rfl
theorem JaF(l:EN)(s:List UInt8):(mGet (cvN l) s).isSome=enH l s:=by
 rw[JjB,enH]
 cases xGet l s <;> rfl
theorem JbF:cvK []=[]:=rfl
theorem JbM:cvN []=[]:=rfl
abbrev KD:=EN
abbrev KSK(L:List KD):KP:=KS Try.prog 9 58 (L.map cvN)
def kPut(K:List KD)(s:List UInt8)(v:Int):List KD:=K.set (K.length-1) ((s,v)::K.getD (K.length-1) [])
def kTop(K:List KD):KD:=K.getD (K.length-1) []
def kHas(K:List KD)(i:Int)(s:List UInt8):Bool:=enH (K.getD i.toNat []) s
def kVal(K:List KD)(i:Int)(s:List UInt8):Int:=enV (K.getD i.toNat []) s
def ifK(s:List UInt8):Int:=if s=[105,102] then 6 else if s=[119,104,105,108,101] then 7 else 0
end Go.Proofs.Ytaofbminodhcnaa
