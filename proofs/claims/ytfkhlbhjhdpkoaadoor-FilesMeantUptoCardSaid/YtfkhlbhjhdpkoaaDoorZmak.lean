/- The program's structures,as data. Written by dec3.py. -/
import Derived.Test.YtfkhlbhjhdpkoaaDoorZmaj
set_option linter.unusedVariables false
set_option linter.unusedSimpArgs false
namespace Go.Proofs.YtfkhlbhjhdpkoaaDoor
open Go.RowKit
structure Source where
 Path:List UInt8
 Text:List UInt8
 deriving Inhabited,DecidableEq
def Jd(x:Source):D:=.ag [.v (str x.Path),.v (str x.Text)]
theorem JeM(x y:Source)(h:Jd x=Jd y):x=y:=by
 rcases x with⟨_,_⟩; rcases y with⟨_,_⟩
 simp only[Jd,D.ag.injEq,List.cons.injEq,and_true]at h
 obtain⟨h0,h1⟩:=h
 have h0:=ZW _ _ h0
 have h1:=ZW _ _ h1
 subst_vars
 rfl
theorem JeH(x y:Source)(h:KY (Jd x)=KY (Jd y)):x=y:=by
 rcases x with⟨_,_⟩; rcases y with⟨_,_⟩
 simp only[Jd,KY,ZH,List.map_cons,List.map_nil,D.ag.injEq,List.cons.injEq,and_true]at h
 obtain⟨h0,h1⟩:=h
 have h0:=ZW _ _ h0
 have h1:=ZW _ _ h1
 subst_vars
 rfl
theorem JgT(x:Source):(Jd x).cells.all D.one=true:=rfl
instance:DInj Jd:=⟨JeH,JeM⟩
structure Fault where
 Err:Int
 File:Int
 At:Int
 deriving Inhabited,DecidableEq
def VE(x:Fault):D:=.ag [.v (.int .i64 x.Err),.v (.int .i64 x.File),.v (.int .i64 x.At)]
theorem JfS(x y:Fault)(h:VE x=VE y):x=y:=by
 rcases x with⟨_,_,_⟩; rcases y with⟨_,_,_⟩
 simp only[VE,D.ag.injEq,List.cons.injEq,and_true]at h
 obtain⟨h0,h1,h2⟩:=h
 have h0:=VK _ _ h0
 have h1:=VK _ _ h1
 have h2:=VK _ _ h2
 subst_vars
 rfl
theorem Jfp(x y:Fault)(h:KY (VE x)=KY (VE y)):x=y:=by
 rcases x with⟨_,_,_⟩; rcases y with⟨_,_,_⟩
 simp only[VE,KY,ZH,List.map_cons,List.map_nil,D.ag.injEq,List.cons.injEq,and_true]at h
 obtain⟨h0,h1,h2⟩:=h
 have h0:=VK _ _ h0
 have h1:=VK _ _ h1
 have h2:=VK _ _ h2
 subst_vars
 rfl
instance:DInj VE:=⟨Jfp,JfS⟩
structure Edit where
 File:Int
 From:Int
 To:Int
 Text:List UInt8
 deriving Inhabited,DecidableEq
def Ja(x:Edit):D:=.ag [.v (.int .i64 x.File),.v (.int .i64 x.From),.v (.int .i64 x.To),.v (str x.Text)]
theorem JgU(x y:Edit)(h:Ja x=Ja y):x=y:=by
 rcases x with⟨_,_,_,_⟩; rcases y with⟨_,_,_,_⟩
 simp only[Ja,D.ag.injEq,List.cons.injEq,and_true]at h
 obtain⟨h0,h1,h2,h3⟩:=h
 have h0:=VK _ _ h0
 have h1:=VK _ _ h1
 have h2:=VK _ _ h2
 have h3:=ZW _ _ h3
 subst_vars
 rfl
theorem Jga(x y:Edit)(h:KY (Ja x)=KY (Ja y)):x=y:=by
 rcases x with⟨_,_,_,_⟩; rcases y with⟨_,_,_,_⟩
 simp only[Ja,KY,ZH,List.map_cons,List.map_nil,D.ag.injEq,List.cons.injEq,and_true]at h
 obtain⟨h0,h1,h2,h3⟩:=h
 have h0:=VK _ _ h0
 have h1:=VK _ _ h1
 have h2:=VK _ _ h2
 have h3:=ZW _ _ h3
 subst_vars
 rfl
theorem Jiu(x:Edit):(Ja x).cells.all D.one=true:=rfl
instance:DInj Ja:=⟨Jga,JgU⟩
end Go.Proofs.YtfkhlbhjhdpkoaaDoor
