/- Facts on types,and which functions can be called. -/
import Derived.Test.YtfkhlbhjhdpkoaaGreatDoorZqae
import Derived.Test.YtfkhlbhjhdpkoaaGreatDoorRows
set_option linter.unusedVariables false
set_option linter.unusedSimpArgs false
namespace Go.Proofs.YtfkhlbhjhdpkoaaGreatDoor
open Go.RowKit
theorem JvC:JC Tryz.prog 3=true:=by kernel_rfl
theorem JxF:Js Tryz.prog 3=1:=by kernel_rfl
theorem JzG:tAgg Tryz.prog 3=false:=by kernel_rfl
theorem JzS:tZok Tryz.prog 3=true:=by kernel_rfl
theorem tZ_3:tZ Tryz.prog 3=[.int .i64 0]:=by kernel_rfl
theorem JCw:tCS Tryz.prog 3=[0]:=by kernel_rfl
theorem JuJ:Vv Tryz.prog 3=8:=by kernel_rfl
theorem JuV:JC Tryz.prog 4=true:=by kernel_rfl
theorem Jxw:Js Tryz.prog 4=1:=by kernel_rfl
theorem JzW:tAgg Tryz.prog 4=false:=by kernel_rfl
theorem Jzp:tZok Tryz.prog 4=true:=by kernel_rfl
theorem tZ_4:tZ Tryz.prog 4=[.bool false]:=by kernel_rfl
theorem JCG:tCS Tryz.prog 4=[0]:=by kernel_rfl
theorem Jwy:Vv Tryz.prog 4=1:=by kernel_rfl
theorem JuE:JC Tryz.prog 5=true:=by kernel_rfl
theorem Jx8:Js Tryz.prog 5=1:=by kernel_rfl
theorem Jzt:tAgg Tryz.prog 5=false:=by kernel_rfl
theorem JzM:tZok Tryz.prog 5=true:=by kernel_rfl
theorem tZ_5:tZ Tryz.prog 5=[.int .u8 0]:=by kernel_rfl
theorem JCM:tCS Tryz.prog 5=[0]:=by kernel_rfl
theorem Jww:Vv Tryz.prog 5=1:=by kernel_rfl
theorem JCr:tZ1 Tryz.prog 5=true:=by kernel_rfl
theorem JvO:JC Tryz.prog 9=true:=by kernel_rfl
theorem Jxn:Js Tryz.prog 9=1:=by kernel_rfl
theorem JAv:tAgg Tryz.prog 9=false:=by kernel_rfl
theorem JzR:tZok Tryz.prog 9=true:=by kernel_rfl
theorem tZ_9:tZ Tryz.prog 9=[str []]:=by kernel_rfl
theorem JCs:tCS Tryz.prog 9=[0]:=by kernel_rfl
theorem Jvi:Vv Tryz.prog 9=16:=by kernel_rfl
theorem JpM:JcH Tryz.prog 9=true:=by kernel_rfl
theorem Jwr:JjV Tryz.prog 20=true:=by kernel_rfl
theorem Juw:JcP Tryz.prog 20=4:=by kernel_rfl
theorem JtN:JC Tryz.prog 24=true:=by kernel_rfl
theorem Jwv:Js Tryz.prog 24=1:=by kernel_rfl
theorem Jyf:tAgg Tryz.prog 24=false:=by kernel_rfl
theorem JxV:tZok Tryz.prog 24=true:=by kernel_rfl
theorem JCI:tZ Tryz.prog 24=[.slice none 0 0]:=by kernel_rfl
theorem JAK:tCS Tryz.prog 24=[11]:=by kernel_rfl
theorem JsZ:Vv Tryz.prog 24=24:=by kernel_rfl
theorem Jwf:JcP Tryz.prog 24=1:=by kernel_rfl
theorem JtQ:JD Tryz.prog 24=true:=by kernel_rfl
theorem Jv4:Ju Tryz.prog 24=44:=by kernel_rfl
theorem JrL:Jdd 24=true:=by kernel_rfl
theorem Jv6:Jan 24=true:=by kernel_rfl
theorem Jq2:JC Tryz.prog 25=true:=by kernel_rfl
theorem Ju4:Js Tryz.prog 25=1:=by kernel_rfl
theorem Jx6:tAgg Tryz.prog 25=false:=by kernel_rfl
theorem JAJ:tCS Tryz.prog 25=[1]:=by kernel_rfl
theorem Jr6:JD Tryz.prog 25=true:=by kernel_rfl
theorem Jwn:Ju Tryz.prog 25=3:=by kernel_rfl
theorem Jsm:Jdd 25=false:=by kernel_rfl
theorem Jwo:Jan 25=true:=by kernel_rfl
theorem JsX:JC Tryz.prog 27=true:=by kernel_rfl
theorem JvD:Js Tryz.prog 27=2:=by kernel_rfl
theorem Jyr:tAgg Tryz.prog 27=true:=by kernel_rfl
theorem JxN:tZok Tryz.prog 27=true:=by kernel_rfl
theorem JCE:tZ Tryz.prog 27=[.slice none 0 0,.slice none 0 0]:=by kernel_rfl
theorem JAL:tCS Tryz.prog 27=[11,1]:=by kernel_rfl
theorem JrQ:XQ Tryz.prog 27=true:=by kernel_rfl
theorem Jl0:Jt Tryz.prog 27 0=true:=by kernel_rfl
theorem Jr4:tOff Tryz.prog 27 0=0:=by kernel_rfl
theorem JsL:tFld Tryz.prog 27 0=24:=by kernel_rfl
theorem Jlg:Jt Tryz.prog 27 1=true:=by kernel_rfl
theorem Jse:tOff Tryz.prog 27 1=1:=by kernel_rfl
theorem Js9:tFld Tryz.prog 27 1=25:=by kernel_rfl
theorem JsI:JC Tryz.prog 28=true:=by kernel_rfl
theorem Juy:Js Tryz.prog 28=1:=by kernel_rfl
theorem JxW:tAgg Tryz.prog 28=false:=by kernel_rfl
theorem JxL:tZok Tryz.prog 28=true:=by kernel_rfl
theorem JCJ:tZ Tryz.prog 28=[.slice none 0 0]:=by kernel_rfl
theorem JAn:tCS Tryz.prog 28=[5]:=by kernel_rfl
theorem Jvb:JcP Tryz.prog 28=1:=by kernel_rfl
theorem Jq1:JD Tryz.prog 28=true:=by kernel_rfl
theorem Ju3:Ju Tryz.prog 28=63:=by kernel_rfl
theorem JtK:Jdd 28=true:=by kernel_rfl
theorem Jvh:Jan 28=true:=by kernel_rfl
theorem JqQ:JC Tryz.prog 29=true:=by kernel_rfl
theorem Jwh:Js Tryz.prog 29=1:=by kernel_rfl
theorem JxE:tAgg Tryz.prog 29=false:=by kernel_rfl
theorem JAA:tCS Tryz.prog 29=[0]:=by kernel_rfl
theorem Jsv:JC Tryz.prog 31=true:=by kernel_rfl
theorem JvZ:Js Tryz.prog 31=3:=by kernel_rfl
theorem Jxb:tAgg Tryz.prog 31=true:=by kernel_rfl
theorem Jxh:tZok Tryz.prog 31=true:=by kernel_rfl
theorem JCt:tZ Tryz.prog 31=[.int .i64 0,.int .i64 0,.int .i64 0]:=by kernel_rfl
theorem JAx:tCS Tryz.prog 31=[0,0,0]:=by kernel_rfl
theorem Jta:XQ Tryz.prog 31=true:=by kernel_rfl
theorem JmM:Jt Tryz.prog 31 0=true:=by kernel_rfl
theorem JsK:tOff Tryz.prog 31 0=0:=by kernel_rfl
theorem JqZ:tFld Tryz.prog 31 0=29:=by kernel_rfl
theorem JlA:Jt Tryz.prog 31 1=true:=by kernel_rfl
theorem Jsc:tOff Tryz.prog 31 1=1:=by kernel_rfl
theorem Jr1:tFld Tryz.prog 31 1=3:=by kernel_rfl
theorem JmD:Jt Tryz.prog 31 2=true:=by kernel_rfl
theorem Jr3:tOff Tryz.prog 31 2=2:=by kernel_rfl
theorem Jsj:tFld Tryz.prog 31 2=3:=by kernel_rfl
theorem Jry:JC Tryz.prog 35=true:=by kernel_rfl
theorem JuS:Js Tryz.prog 35=2:=by kernel_rfl
theorem Jxy:tAgg Tryz.prog 35=true:=by kernel_rfl
theorem Jxu:tZok Tryz.prog 35=true:=by kernel_rfl
theorem JCK:tZ Tryz.prog 35=[str [],str []]:=by kernel_rfl
theorem JzC:tCS Tryz.prog 35=[0,0]:=by kernel_rfl
theorem JtH:Vv Tryz.prog 35=32:=by kernel_rfl
theorem JqK:XQ Tryz.prog 35=true:=by kernel_rfl
theorem Jmn:Jt Tryz.prog 35 0=true:=by kernel_rfl
theorem JtF:tOff Tryz.prog 35 0=0:=by kernel_rfl
theorem Jsp:tFld Tryz.prog 35 0=9:=by kernel_rfl
theorem JmJ:Jt Tryz.prog 35 1=true:=by kernel_rfl
theorem Jsy:tOff Tryz.prog 35 1=1:=by kernel_rfl
theorem JqX:tFld Tryz.prog 35 1=9:=by kernel_rfl
theorem Jsg:JC Tryz.prog 37=true:=by kernel_rfl
theorem Juz:Js Tryz.prog 37=1:=by kernel_rfl
theorem Jyo:tAgg Tryz.prog 37=false:=by kernel_rfl
theorem JzN:tCS Tryz.prog 37=[2]:=by kernel_rfl
theorem Jsi:JD Tryz.prog 37=true:=by kernel_rfl
theorem Jve:Ju Tryz.prog 37=35:=by kernel_rfl
theorem Jsf:Jdd 37=false:=by kernel_rfl
theorem Jwk:Jan 37=false:=by kernel_rfl
theorem Js0:JC Tryz.prog 39=true:=by kernel_rfl
theorem Jwm:Js Tryz.prog 39=3:=by kernel_rfl
theorem JxZ:tAgg Tryz.prog 39=true:=by kernel_rfl
theorem Jx2:tZok Tryz.prog 39=true:=by kernel_rfl
theorem JCF:tZ Tryz.prog 39=[.int .i64 0,.int .i64 0,.int .i64 0]:=by kernel_rfl
theorem JzU:tCS Tryz.prog 39=[0,0,0]:=by kernel_rfl
theorem JrF:XQ Tryz.prog 39=true:=by kernel_rfl
theorem Jl5:Jt Tryz.prog 39 0=true:=by kernel_rfl
theorem JqB:tOff Tryz.prog 39 0=0:=by kernel_rfl
theorem JqL:tFld Tryz.prog 39 0=3:=by kernel_rfl
theorem JlO:Jt Tryz.prog 39 1=true:=by kernel_rfl
theorem JrW:tOff Tryz.prog 39 1=1:=by kernel_rfl
theorem Jrf:tFld Tryz.prog 39 1=3:=by kernel_rfl
theorem Jlk:Jt Tryz.prog 39 2=true:=by kernel_rfl
theorem JsE:tOff Tryz.prog 39 2=2:=by kernel_rfl
theorem JrZ:tFld Tryz.prog 39 2=3:=by kernel_rfl
theorem JtA:JC Tryz.prog 41=true:=by kernel_rfl
theorem Jur:Js Tryz.prog 41=1:=by kernel_rfl
theorem Jx4:tAgg Tryz.prog 41=false:=by kernel_rfl
theorem Jxe:tZok Tryz.prog 41=true:=by kernel_rfl
theorem JCy:tZ Tryz.prog 41=[.slice none 0 0]:=by kernel_rfl
theorem JzE:tCS Tryz.prog 41=[1]:=by kernel_rfl
theorem Jrv:Vv Tryz.prog 41=24:=by kernel_rfl
theorem JvV:JcP Tryz.prog 41=1:=by kernel_rfl
theorem Jtc:JD Tryz.prog 41=true:=by kernel_rfl
theorem Ju2:Ju Tryz.prog 41=9:=by kernel_rfl
theorem Jst:Jdd 41=false:=by kernel_rfl
theorem Jwx:Jan 41=true:=by kernel_rfl
theorem JrM:JC Tryz.prog 42=true:=by kernel_rfl
theorem Jwa:Js Tryz.prog 42=1:=by kernel_rfl
theorem Jxg:tAgg Tryz.prog 42=false:=by kernel_rfl
theorem JxX:tZok Tryz.prog 42=true:=by kernel_rfl
theorem JCH:tZ Tryz.prog 42=[.slice none 0 0]:=by kernel_rfl
theorem Jzq:tCS Tryz.prog 42=[3]:=by kernel_rfl
theorem JqJ:Vv Tryz.prog 42=24:=by kernel_rfl
theorem JvY:JcP Tryz.prog 42=1:=by kernel_rfl
theorem Jti:JD Tryz.prog 42=true:=by kernel_rfl
theorem JvU:Ju Tryz.prog 42=198:=by kernel_rfl
theorem JtB:Jdd 42=false:=by kernel_rfl
theorem Jvg:Jan 42=false:=by kernel_rfl
theorem Jsk:JC Tryz.prog 44=true:=by kernel_rfl
theorem JuN:Js Tryz.prog 44=11:=by kernel_rfl
theorem Jx7:tAgg Tryz.prog 44=true:=by kernel_rfl
theorem Jxl:tZok Tryz.prog 44=true:=by kernel_rfl
theorem JCq:tZ Tryz.prog 44=[.int .i64 0,str [],.bool false,.bool false,.int .i64 0,.int .i64 0,.int .i64 0,.int .i64 0,.slice none 0 0,.slice none 0 0,.int .i64 0]:=by kernel_rfl
theorem Jz8:tCS Tryz.prog 44=[0,0,0,0,0,0,0,0,1,3,0]:=by kernel_rfl
theorem JtI:Vv Tryz.prog 44=120:=by kernel_rfl
theorem JqW:XQ Tryz.prog 44=true:=by kernel_rfl
theorem Jmh:Jt Tryz.prog 44 0=true:=by kernel_rfl
theorem JsP:tOff Tryz.prog 44 0=0:=by kernel_rfl
theorem Jq8:tFld Tryz.prog 44 0=3:=by kernel_rfl
theorem Jly:Jt Tryz.prog 44 1=true:=by kernel_rfl
theorem Jte:tOff Tryz.prog 44 1=1:=by kernel_rfl
theorem Jtg:tFld Tryz.prog 44 1=9:=by kernel_rfl
theorem JlL:Jt Tryz.prog 44 2=true:=by kernel_rfl
theorem Js7:tOff Tryz.prog 44 2=2:=by kernel_rfl
theorem JqG:tFld Tryz.prog 44 2=4:=by kernel_rfl
theorem JlQ:Jt Tryz.prog 44 3=true:=by kernel_rfl
theorem Jq4:tOff Tryz.prog 44 3=3:=by kernel_rfl
theorem Jsq:tFld Tryz.prog 44 3=4:=by kernel_rfl
theorem Jms:Jt Tryz.prog 44 4=true:=by kernel_rfl
theorem Js2:tOff Tryz.prog 44 4=4:=by kernel_rfl
theorem JqP:tFld Tryz.prog 44 4=3:=by kernel_rfl
theorem JmK:Jt Tryz.prog 44 5=true:=by kernel_rfl
theorem JqN:tOff Tryz.prog 44 5=5:=by kernel_rfl
theorem Jq9:tFld Tryz.prog 44 5=3:=by kernel_rfl
theorem Jlx:Jt Tryz.prog 44 6=true:=by kernel_rfl
theorem Jrh:tOff Tryz.prog 44 6=6:=by kernel_rfl
theorem JsB:tFld Tryz.prog 44 6=3:=by kernel_rfl
theorem Jmu:Jt Tryz.prog 44 7=true:=by kernel_rfl
theorem JrX:tOff Tryz.prog 44 7=7:=by kernel_rfl
theorem JrR:tFld Tryz.prog 44 7=3:=by kernel_rfl
theorem Jln:Jt Tryz.prog 44 8=true:=by kernel_rfl
theorem JrJ:tOff Tryz.prog 44 8=8:=by kernel_rfl
theorem JqF:tFld Tryz.prog 44 8=41:=by kernel_rfl
theorem JlU:Jt Tryz.prog 44 9=true:=by kernel_rfl
theorem JrG:tOff Tryz.prog 44 9=9:=by kernel_rfl
theorem Jtm:tFld Tryz.prog 44 9=42:=by kernel_rfl
theorem JkX:Jt Tryz.prog 44 10=true:=by kernel_rfl
theorem Jpf:tOff Tryz.prog 44 10=10:=by kernel_rfl
theorem JpJ:tFld Tryz.prog 44 10=3:=by kernel_rfl
theorem JtC:JC Tryz.prog 55=true:=by kernel_rfl
theorem JvP:Js Tryz.prog 55=1:=by kernel_rfl
theorem Jw9:tAgg Tryz.prog 55=false:=by kernel_rfl
theorem Jz1:tCS Tryz.prog 55=[1]:=by kernel_rfl
theorem JqY:JD Tryz.prog 55=true:=by kernel_rfl
theorem JvX:Ju Tryz.prog 55=5:=by kernel_rfl
theorem Jru:Jdd 55=false:=by kernel_rfl
theorem JuD:Jan 55=true:=by kernel_rfl
theorem Jtt:JC Tryz.prog 63=true:=by kernel_rfl
theorem Jvz:Js Tryz.prog 63=5:=by kernel_rfl
theorem Jxs:tAgg Tryz.prog 63=true:=by kernel_rfl
theorem Jyb:tZok Tryz.prog 63=true:=by kernel_rfl
theorem JCv:tZ Tryz.prog 63=[str [],.bool false,.slice none 0 0,.bool false,.slice none 0 0]:=by kernel_rfl
theorem Jzi:tCS Tryz.prog 63=[0,0,1,0,11]:=by kernel_rfl
theorem Jrb:Vv Tryz.prog 63=80:=by kernel_rfl
theorem Jtv:XQ Tryz.prog 63=true:=by kernel_rfl
theorem Jmp:Jt Tryz.prog 63 0=true:=by kernel_rfl
theorem JqV:tOff Tryz.prog 63 0=0:=by kernel_rfl
theorem JsT:tFld Tryz.prog 63 0=9:=by kernel_rfl
theorem Jll:Jt Tryz.prog 63 1=true:=by kernel_rfl
theorem Jrp:tOff Tryz.prog 63 1=1:=by kernel_rfl
theorem JsS:tFld Tryz.prog 63 1=4:=by kernel_rfl
theorem JlM:Jt Tryz.prog 63 2=true:=by kernel_rfl
theorem JsG:tOff Tryz.prog 63 2=2:=by kernel_rfl
theorem JtG:tFld Tryz.prog 63 2=41:=by kernel_rfl
theorem Jls:Jt Tryz.prog 63 3=true:=by kernel_rfl
theorem JqR:tOff Tryz.prog 63 3=3:=by kernel_rfl
theorem JtT:tFld Tryz.prog 63 3=4:=by kernel_rfl
theorem Jmr:Jt Tryz.prog 63 4=true:=by kernel_rfl
theorem Jr5:tOff Tryz.prog 63 4=4:=by kernel_rfl
theorem JsY:tFld Tryz.prog 63 4=24:=by kernel_rfl
theorem JxC:tZok Tryz.prog 65=true:=by kernel_rfl
theorem JCD:tZ Tryz.prog 65=[.slice none 0 0,.int .i64 0,.int .i64 0,.int .i64 0,.slice none 0 0,.slice none 0 0,.slice none 0 0,.slice none 0 0,.int .i64 0]:=by kernel_rfl
theorem Jzo:tCS Tryz.prog 65=[2,0,0,0,5,1,11,1,0]:=by kernel_rfl
theorem Jsr:XQ Tryz.prog 65=true:=by kernel_rfl
theorem Jl6:Jt Tryz.prog 65 0=true:=by kernel_rfl
theorem JqD:tOff Tryz.prog 65 0=0:=by kernel_rfl
theorem Jtb:tFld Tryz.prog 65 0=37:=by kernel_rfl
theorem JlD:Jt Tryz.prog 65 1=true:=by kernel_rfl
theorem Jra:tOff Tryz.prog 65 1=1:=by kernel_rfl
theorem Js8:tFld Tryz.prog 65 1=39:=by kernel_rfl
theorem Jmd:Jt Tryz.prog 65 2=true:=by kernel_rfl
theorem JrC:tOff Tryz.prog 65 2=4:=by kernel_rfl
theorem Jr9:tFld Tryz.prog 65 2=28:=by kernel_rfl
theorem Jlz:Jt Tryz.prog 65 3=true:=by kernel_rfl
theorem Jth:tOff Tryz.prog 65 3=5:=by kernel_rfl
theorem Js6:tFld Tryz.prog 65 3=25:=by kernel_rfl
theorem JmF:Jt Tryz.prog 65 4=true:=by kernel_rfl
theorem JrA:tOff Tryz.prog 65 4=6:=by kernel_rfl
theorem Jsn:tFld Tryz.prog 65 4=27:=by kernel_rfl
theorem Jl4:Jt Tryz.prog 65 5=true:=by kernel_rfl
theorem JrV:tOff Tryz.prog 65 5=8:=by kernel_rfl
theorem JrN:tFld Tryz.prog 65 5=3:=by kernel_rfl
theorem Jre:JC Tryz.prog 70=true:=by kernel_rfl
theorem Jwc:Js Tryz.prog 70=2:=by kernel_rfl
theorem Jyc:tAgg Tryz.prog 70=true:=by kernel_rfl
theorem Jyg:tZok Tryz.prog 70=true:=by kernel_rfl
theorem JCn:tZ Tryz.prog 70=[str [],.slice none 0 0]:=by kernel_rfl
theorem Jzr:tCS Tryz.prog 70=[0,1]:=by kernel_rfl
theorem Jtp:XQ Tryz.prog 70=true:=by kernel_rfl
theorem Jmy:Jt Tryz.prog 70 0=true:=by kernel_rfl
theorem JsM:tOff Tryz.prog 70 0=0:=by kernel_rfl
theorem JsN:tFld Tryz.prog 70 0=9:=by kernel_rfl
theorem JlH:Jt Tryz.prog 70 1=true:=by kernel_rfl
theorem JtE:tOff Tryz.prog 70 1=1:=by kernel_rfl
theorem Jrn:tFld Tryz.prog 70 1=25:=by kernel_rfl
theorem JsF:JC Tryz.prog 78=true:=by kernel_rfl
theorem JvK:Js Tryz.prog 78=3:=by kernel_rfl
theorem JxG:tAgg Tryz.prog 78=true:=by kernel_rfl
theorem Jyj:tZok Tryz.prog 78=true:=by kernel_rfl
theorem JCx:tZ Tryz.prog 78=[.int .i64 0,.int .i64 0,.int .i64 0]:=by kernel_rfl
theorem JzL:tCS Tryz.prog 78=[0,0,0]:=by kernel_rfl
theorem Jnq:JcH Tryz.prog 78=true:=by kernel_rfl
theorem Jrm:XQ Tryz.prog 78=true:=by kernel_rfl
theorem Jlt:Jt Tryz.prog 78 0=true:=by kernel_rfl
theorem Jro:tOff Tryz.prog 78 0=0:=by kernel_rfl
theorem Jq3:tFld Tryz.prog 78 0=31:=by kernel_rfl
theorem JrD:JD Tryz.prog 80=true:=by kernel_rfl
theorem JwA:Ju Tryz.prog 80=90:=by kernel_rfl
theorem Jtw:Jdd 80=true:=by kernel_rfl
theorem Jwu:Jan 80=true:=by kernel_rfl
theorem Jq0:JD Tryz.prog 81=true:=by kernel_rfl
theorem JuF:Ju Tryz.prog 81=24:=by kernel_rfl
theorem JqU:Jdd 81=false:=by kernel_rfl
theorem JuO:Jan 81=true:=by kernel_rfl
theorem JqO:JC Tryz.prog 90=true:=by kernel_rfl
theorem Jup:Js Tryz.prog 90=14:=by kernel_rfl
theorem Jxd:tAgg Tryz.prog 90=true:=by kernel_rfl
theorem JxK:tZok Tryz.prog 90=true:=by kernel_rfl
theorem JCN:tZ Tryz.prog 90=[.bool false,.bool false,.bool false,.int .i64 0,str [],.bool false,.bool false,.int .i64 0,.int .i64 0,.int .i64 0,.int .i64 0,.slice none 0 0,.slice none 0 0,.int .i64 0]:=by kernel_rfl
theorem JzT:tCS Tryz.prog 90=[0,0,0,0,0,0,0,0,0,0,0,1,3,0]:=by kernel_rfl
theorem Jtd:Vv Tryz.prog 90=128:=by kernel_rfl
theorem JtD:XQ Tryz.prog 90=true:=by kernel_rfl
theorem JlE:Jt Tryz.prog 90 0=true:=by kernel_rfl
theorem Jq5:tOff Tryz.prog 90 0=0:=by kernel_rfl
theorem Jrs:tFld Tryz.prog 90 0=4:=by kernel_rfl
theorem JmI:Jt Tryz.prog 90 1=true:=by kernel_rfl
theorem Jss:tOff Tryz.prog 90 1=1:=by kernel_rfl
theorem Jtz:tFld Tryz.prog 90 1=4:=by kernel_rfl
theorem Jld:Jt Tryz.prog 90 2=true:=by kernel_rfl
theorem Jto:tOff Tryz.prog 90 2=2:=by kernel_rfl
theorem JsA:tFld Tryz.prog 90 2=4:=by kernel_rfl
theorem Jlm:Jt Tryz.prog 90 3=true:=by kernel_rfl
theorem Jrl:tOff Tryz.prog 90 3=3:=by kernel_rfl
theorem Jtn:tFld Tryz.prog 90 3=44:=by kernel_rfl
theorem Jyn:tZok Tryz.prog 99=true:=by kernel_rfl
theorem JCl:tZ Tryz.prog 99=[str [],.slice none 0 0,str [],.int .i64 0,.int .i64 0,.slice none 0 0]:=by kernel_rfl
theorem JAP:tCS Tryz.prog 99=[0,1,0,0,0,11]:=by kernel_rfl
theorem JqT:XQ Tryz.prog 99=true:=by kernel_rfl
theorem Jl3:Jt Tryz.prog 99 0=true:=by kernel_rfl
theorem JtM:tOff Tryz.prog 99 0=0:=by kernel_rfl
theorem Jri:tFld Tryz.prog 99 0=70:=by kernel_rfl
theorem Jmb:Jt Tryz.prog 99 1=true:=by kernel_rfl
theorem Jsb:tOff Tryz.prog 99 1=2:=by kernel_rfl
theorem JrO:tFld Tryz.prog 99 1=9:=by kernel_rfl
theorem JmN:Jt Tryz.prog 99 2=true:=by kernel_rfl
theorem JsW:tOff Tryz.prog 99 2=3:=by kernel_rfl
theorem Jq7:tFld Tryz.prog 99 2=3:=by kernel_rfl
theorem JlP:Jt Tryz.prog 99 3=true:=by kernel_rfl
theorem Jsd:tOff Tryz.prog 99 3=4:=by kernel_rfl
theorem Jtf:tFld Tryz.prog 99 3=3:=by kernel_rfl
theorem JlV:Jt Tryz.prog 99 4=true:=by kernel_rfl
theorem Jsu:tOff Tryz.prog 99 4=5:=by kernel_rfl
theorem Jr8:tFld Tryz.prog 99 4=24:=by kernel_rfl
theorem Jux:tZok Tryz.prog 155=true:=by kernel_rfl
theorem Jze:tZ Tryz.prog 155=[.slice none 0 0,.slice none 0 0,.int .i64 0,.int .i64 0]:=by kernel_rfl
theorem JxB:tCS Tryz.prog 155=[5,2,0,0]:=by kernel_rfl
theorem JoO:XQ Tryz.prog 155=true:=by kernel_rfl
theorem JkP:Jt Tryz.prog 155 0=true:=by kernel_rfl
theorem JoU:tOff Tryz.prog 155 0=0:=by kernel_rfl
theorem Jou:tFld Tryz.prog 155 0=28:=by kernel_rfl
theorem JkN:Jt Tryz.prog 155 1=true:=by kernel_rfl
theorem JpR:tOff Tryz.prog 155 1=1:=by kernel_rfl
theorem JoC:tFld Tryz.prog 155 1=37:=by kernel_rfl
theorem JkF:Jt Tryz.prog 155 2=true:=by kernel_rfl
theorem Jpb:tOff Tryz.prog 155 2=2:=by kernel_rfl
theorem Jpu:tFld Tryz.prog 155 2=3:=by kernel_rfl
theorem JkG:Jt Tryz.prog 155 3=true:=by kernel_rfl
theorem JpH:tOff Tryz.prog 155 3=3:=by kernel_rfl
theorem Jph:tFld Tryz.prog 155 3=3:=by kernel_rfl
theorem JpT:JC Tryz.prog 156=true:=by kernel_rfl
theorem Jrr:Js Tryz.prog 156=3:=by kernel_rfl
theorem Jvq:tAgg Tryz.prog 156=true:=by kernel_rfl
theorem JuY:tZok Tryz.prog 156=true:=by kernel_rfl
theorem Jz2:tZ Tryz.prog 156=[.int .i64 0,.int .i64 0,.int .i64 0]:=by kernel_rfl
theorem Jxr:tCS Tryz.prog 156=[0,0,0]:=by kernel_rfl
theorem Jl1:JcH Tryz.prog 156=true:=by kernel_rfl
theorem JpP:XQ Tryz.prog 156=true:=by kernel_rfl
theorem JkI:Jt Tryz.prog 156 0=true:=by kernel_rfl
theorem Jn7:tOff Tryz.prog 156 0=0:=by kernel_rfl
theorem Jpw:tFld Tryz.prog 156 0=31:=by kernel_rfl
theorem Jo4:JC Tryz.prog 157=true:=by kernel_rfl
theorem Jrq:Js Tryz.prog 157=1:=by kernel_rfl
theorem Jvt:tAgg Tryz.prog 157=false:=by kernel_rfl
theorem Jxv:tCS Tryz.prog 157=[0]:=by kernel_rfl
theorem JvR:tZok Tryz.prog 159=true:=by kernel_rfl
theorem JzF:tZ Tryz.prog 159=[.slice none 0 0,.int .i64 0,.int .i64 0,.int .i64 0]:=by kernel_rfl
theorem Jw7:tCS Tryz.prog 159=[11,0,0,0]:=by kernel_rfl
theorem Jo1:XQ Tryz.prog 159=true:=by kernel_rfl
theorem JkK:Jt Tryz.prog 159 0=true:=by kernel_rfl
theorem JoY:tOff Tryz.prog 159 0=0:=by kernel_rfl
theorem JpC:tFld Tryz.prog 159 0=24:=by kernel_rfl
theorem JkB:Jt Tryz.prog 159 1=true:=by kernel_rfl
theorem Jot:tOff Tryz.prog 159 1=1:=by kernel_rfl
theorem JpD:tFld Tryz.prog 159 1=3:=by kernel_rfl
theorem JkT:Jt Tryz.prog 159 2=true:=by kernel_rfl
theorem Joh:tOff Tryz.prog 159 2=2:=by kernel_rfl
theorem Jog:tFld Tryz.prog 159 2=3:=by kernel_rfl
theorem JkE:Jt Tryz.prog 159 3=true:=by kernel_rfl
theorem Jpp:tOff Tryz.prog 159 3=3:=by kernel_rfl
theorem Jol:tFld Tryz.prog 159 3=3:=by kernel_rfl
theorem Joq:JC Tryz.prog 170=true:=by kernel_rfl
theorem JrY:Js Tryz.prog 170=3:=by kernel_rfl
theorem Jvk:tAgg Tryz.prog 170=true:=by kernel_rfl
theorem JvF:tZok Tryz.prog 170=true:=by kernel_rfl
theorem JzH:tZ Tryz.prog 170=[.int .i64 0,.int .i64 0,.int .i64 0]:=by kernel_rfl
theorem Jx9:tCS Tryz.prog 170=[0,0,0]:=by kernel_rfl
theorem JlN:JcH Tryz.prog 170=true:=by kernel_rfl
theorem Jo6:XQ Tryz.prog 170=true:=by kernel_rfl
theorem JkO:Jt Tryz.prog 170 0=true:=by kernel_rfl
theorem Jpk:tOff Tryz.prog 170 0=0:=by kernel_rfl
theorem Jod:tFld Tryz.prog 170 0=31:=by kernel_rfl
theorem JoP:JC Tryz.prog 171=true:=by kernel_rfl
theorem JsV:Js Tryz.prog 171=1:=by kernel_rfl
theorem Jus:tAgg Tryz.prog 171=false:=by kernel_rfl
theorem Jwl:tZok Tryz.prog 171=true:=by kernel_rfl
theorem JzP:tZ Tryz.prog 171=[.slice none 0 0]:=by kernel_rfl
theorem JxS:tCS Tryz.prog 171=[11]:=by kernel_rfl
theorem Jtu:JcP Tryz.prog 171=1:=by kernel_rfl
theorem Jon:JD Tryz.prog 171=true:=by kernel_rfl
theorem JsU:Ju Tryz.prog 171=44:=by kernel_rfl
theorem JpA:Jdd 171=true:=by kernel_rfl
theorem Jr2:Jan 171=true:=by kernel_rfl
theorem Jo0:JC Tryz.prog 178=true:=by kernel_rfl
theorem JrP:Js Tryz.prog 178=2:=by kernel_rfl
theorem Ju8:tAgg Tryz.prog 178=true:=by kernel_rfl
theorem Jpt:XQ Tryz.prog 178=true:=by kernel_rfl
theorem Jsl:Juk Tryz.prog 178=2:=by kernel_rfl
theorem Ju7:tAEl Tryz.prog 178=3:=by kernel_rfl
theorem Jvr:tAOk Tryz.prog 178=true:=by kernel_rfl
theorem JvG:tZok Tryz.prog 178=true:=by kernel_rfl
theorem JAM:tZ Tryz.prog 178=[.int .i64 0,.int .i64 0]:=by kernel_rfl
theorem Jyh:tCS Tryz.prog 178=[0]:=by kernel_rfl
theorem Joa:JC Tryz.prog 198=true:=by kernel_rfl
theorem Js5:Js Tryz.prog 198=3:=by kernel_rfl
theorem JuG:tAgg Tryz.prog 198=true:=by kernel_rfl
theorem JuK:tZok Tryz.prog 198=true:=by kernel_rfl
theorem JAf:tZ Tryz.prog 198=[str [],.int .i64 0,.int .i64 0]:=by kernel_rfl
theorem JxM:tCS Tryz.prog 198=[0,0,0]:=by kernel_rfl
theorem Jn8:Vv Tryz.prog 198=32:=by kernel_rfl
theorem JpF:XQ Tryz.prog 198=true:=by kernel_rfl
theorem JkH:Jt Tryz.prog 198 0=true:=by kernel_rfl
theorem Jox:tOff Tryz.prog 198 0=0:=by kernel_rfl
theorem JoA:tFld Tryz.prog 198 0=9:=by kernel_rfl
theorem JkJ:Jt Tryz.prog 198 1=true:=by kernel_rfl
theorem JoG:tOff Tryz.prog 198 1=1:=by kernel_rfl
theorem Jpq:tFld Tryz.prog 198 1=3:=by kernel_rfl
theorem JkM:Jt Tryz.prog 198 2=true:=by kernel_rfl
theorem JoH:tOff Tryz.prog 198 2=2:=by kernel_rfl
theorem Jpa:tFld Tryz.prog 198 2=3:=by kernel_rfl
theorem Jn0:JC Tryz.prog 210=true:=by kernel_rfl
theorem JsO:Js Tryz.prog 210=1:=by kernel_rfl
theorem Juu:tAgg Tryz.prog 210=false:=by kernel_rfl
theorem Jyi:tCS Tryz.prog 210=[0]:=by kernel_rfl
theorem Js4:JcP Tryz.prog 210=4:=by kernel_rfl
theorem Joo:JD Tryz.prog 224=true:=by kernel_rfl
theorem JqH:Ju Tryz.prog 224=41:=by kernel_rfl
theorem Jpr:JD Tryz.prog 227=true:=by kernel_rfl
theorem Jsz:Ju Tryz.prog 227=42:=by kernel_rfl
theorem y_3:((((type_of% @Tryz.underlying3)∧(type_of% @JzG))∧((type_of% @JuJ)∧(type_of% @JCw)))∧(((type_of% @JvC)∧(type_of% @JxF))∧((type_of% @tZ_3)∧(type_of% @JzS)))):=⟨⟨⟨@Tryz.underlying3,@JzG⟩,⟨@JuJ,@JCw⟩⟩,⟨⟨@JvC,@JxF⟩,⟨@tZ_3,@JzS⟩⟩⟩
theorem y_4:((((type_of% @Tryz.underlying4)∧(type_of% @JzW))∧((type_of% @Jwy)∧(type_of% @JCG)))∧(((type_of% @JuV)∧(type_of% @Jxw))∧((type_of% @tZ_4)∧(type_of% @Jzp)))):=⟨⟨⟨@Tryz.underlying4,@JzW⟩,⟨@Jwy,@JCG⟩⟩,⟨⟨@JuV,@Jxw⟩,⟨@tZ_4,@Jzp⟩⟩⟩
theorem y_5:((((type_of% @Tryz.underlying5)∧(type_of% @Jzt))∧((type_of% @Jww)∧(type_of% @JCM)))∧(((type_of% @JuE)∧(type_of% @Jx8))∧((type_of% @JCr)∧((type_of% @tZ_5)∧(type_of% @JzM))))):=⟨⟨⟨@Tryz.underlying5,@Jzt⟩,⟨@Jww,@JCM⟩⟩,⟨⟨@JuE,@Jx8⟩,⟨@JCr,⟨@tZ_5,@JzM⟩⟩⟩⟩
theorem y_9:((((type_of% @Tryz.underlying9)∧(type_of% @JAv))∧((type_of% @Jvi)∧(type_of% @JCs)))∧(((type_of% @JvO)∧(type_of% @JpM))∧((type_of% @Jxn)∧((type_of% @tZ_9)∧(type_of% @JzR))))):=⟨⟨⟨@Tryz.underlying9,@JAv⟩,⟨@Jvi,@JCs⟩⟩,⟨⟨@JvO,@JpM⟩,⟨@Jxn,⟨@tZ_9,@JzR⟩⟩⟩⟩
theorem y_20:((type_of% @Jwr)∧(type_of% @Juw)):=⟨@Jwr,@Juw⟩
theorem y_24:((((type_of% @JrL)∧((type_of% @Jv6)∧(type_of% @Jyf)))∧((type_of% @JsZ)∧((type_of% @JAK)∧(type_of% @Jv4))))∧(((type_of% @JtN)∧((type_of% @Jwf)∧(type_of% @Jwv)))∧((type_of% @JtQ)∧((type_of% @JCI)∧(type_of% @JxV))))):=⟨⟨⟨@JrL,⟨@Jv6,@Jyf⟩⟩,⟨@JsZ,⟨@JAK,@Jv4⟩⟩⟩,⟨⟨@JtN,⟨@Jwf,@Jwv⟩⟩,⟨@JtQ,⟨@JCI,@JxV⟩⟩⟩⟩
theorem y_25:((((type_of% @Jsm)∧(type_of% @Jwo))∧((type_of% @Jx6)∧(type_of% @JAJ)))∧(((type_of% @Jwn)∧(type_of% @Jq2))∧((type_of% @Ju4)∧(type_of% @Jr6)))):=⟨⟨⟨@Jsm,@Jwo⟩,⟨@Jx6,@JAJ⟩⟩,⟨⟨@Jwn,@Jq2⟩,⟨@Ju4,@Jr6⟩⟩⟩
theorem y_27:((((type_of% @Jyr)∧((type_of% @JAL)∧(type_of% @JsL)))∧((type_of% @Js9)∧((type_of% @JsX)∧(type_of% @Jr4))))∧(((type_of% @Jse)∧((type_of% @JrQ)∧(type_of% @JvD)))∧(((type_of% @Jl0)∧(type_of% @Jlg))∧((type_of% @JCE)∧(type_of% @JxN))))):=⟨⟨⟨@Jyr,⟨@JAL,@JsL⟩⟩,⟨@Js9,⟨@JsX,@Jr4⟩⟩⟩,⟨⟨@Jse,⟨@JrQ,@JvD⟩⟩,⟨⟨@Jl0,@Jlg⟩,⟨@JCE,@JxN⟩⟩⟩⟩
theorem y_28:((((type_of% @JtK)∧(type_of% @Jvh))∧((type_of% @JxW)∧((type_of% @JAn)∧(type_of% @Ju3))))∧(((type_of% @JsI)∧((type_of% @Jvb)∧(type_of% @Juy)))∧((type_of% @Jq1)∧((type_of% @JCJ)∧(type_of% @JxL))))):=⟨⟨⟨@JtK,@Jvh⟩,⟨@JxW,⟨@JAn,@Ju3⟩⟩⟩,⟨⟨@JsI,⟨@Jvb,@Juy⟩⟩,⟨@Jq1,⟨@JCJ,@JxL⟩⟩⟩⟩
theorem y_29:(((type_of% @JxE)∧(type_of% @JAA))∧((type_of% @JqQ)∧(type_of% @Jwh))):=⟨⟨@JxE,@JAA⟩,⟨@JqQ,@Jwh⟩⟩
theorem y_31:(((((type_of% @Jxb)∧(type_of% @JAx))∧((type_of% @JqZ)∧(type_of% @Jr1)))∧(((type_of% @Jsj)∧(type_of% @Jsv))∧((type_of% @JsK)∧(type_of% @Jsc))))∧((((type_of% @Jr3)∧(type_of% @Jta))∧((type_of% @JvZ)∧(type_of% @JmM)))∧(((type_of% @JlA)∧(type_of% @JmD))∧((type_of% @JCt)∧(type_of% @Jxh))))):=⟨⟨⟨⟨@Jxb,@JAx⟩,⟨@JqZ,@Jr1⟩⟩,⟨⟨@Jsj,@Jsv⟩,⟨@JsK,@Jsc⟩⟩⟩,⟨⟨⟨@Jr3,@Jta⟩,⟨@JvZ,@JmM⟩⟩,⟨⟨@JlA,@JmD⟩,⟨@JCt,@Jxh⟩⟩⟩⟩
theorem y_35:((((type_of% @Jxy)∧((type_of% @JtH)∧(type_of% @JzC)))∧(((type_of% @Jsp)∧(type_of% @JqX))∧((type_of% @Jry)∧(type_of% @JtF))))∧(((type_of% @Jsy)∧((type_of% @JqK)∧(type_of% @JuS)))∧(((type_of% @Jmn)∧(type_of% @JmJ))∧((type_of% @JCK)∧(type_of% @Jxu))))):=⟨⟨⟨@Jxy,⟨@JtH,@JzC⟩⟩,⟨⟨@Jsp,@JqX⟩,⟨@Jry,@JtF⟩⟩⟩,⟨⟨@Jsy,⟨@JqK,@JuS⟩⟩,⟨⟨@Jmn,@JmJ⟩,⟨@JCK,@Jxu⟩⟩⟩⟩
theorem y_37:((((type_of% @Jsf)∧(type_of% @Jwk))∧((type_of% @Jyo)∧(type_of% @JzN)))∧(((type_of% @Jve)∧(type_of% @Jsg))∧((type_of% @Juz)∧(type_of% @Jsi)))):=⟨⟨⟨@Jsf,@Jwk⟩,⟨@Jyo,@JzN⟩⟩,⟨⟨@Jve,@Jsg⟩,⟨@Juz,@Jsi⟩⟩⟩
theorem y_39:(((((type_of% @JxZ)∧(type_of% @JzU))∧((type_of% @JqL)∧(type_of% @Jrf)))∧(((type_of% @JrZ)∧(type_of% @Js0))∧((type_of% @JqB)∧(type_of% @JrW))))∧((((type_of% @JsE)∧(type_of% @JrF))∧((type_of% @Jwm)∧(type_of% @Jl5)))∧(((type_of% @JlO)∧(type_of% @Jlk))∧((type_of% @JCF)∧(type_of% @Jx2))))):=⟨⟨⟨⟨@JxZ,@JzU⟩,⟨@JqL,@Jrf⟩⟩,⟨⟨@JrZ,@Js0⟩,⟨@JqB,@JrW⟩⟩⟩,⟨⟨⟨@JsE,@JrF⟩,⟨@Jwm,@Jl5⟩⟩,⟨⟨@JlO,@Jlk⟩,⟨@JCF,@Jx2⟩⟩⟩⟩
theorem y_41:((((type_of% @Jst)∧((type_of% @Jwx)∧(type_of% @Jx4)))∧((type_of% @Jrv)∧((type_of% @JzE)∧(type_of% @Ju2))))∧(((type_of% @JtA)∧((type_of% @JvV)∧(type_of% @Jur)))∧((type_of% @Jtc)∧((type_of% @JCy)∧(type_of% @Jxe))))):=⟨⟨⟨@Jst,⟨@Jwx,@Jx4⟩⟩,⟨@Jrv,⟨@JzE,@Ju2⟩⟩⟩,⟨⟨@JtA,⟨@JvV,@Jur⟩⟩,⟨@Jtc,⟨@JCy,@Jxe⟩⟩⟩⟩
theorem y_42:((((type_of% @JtB)∧((type_of% @Jvg)∧(type_of% @Jxg)))∧((type_of% @JqJ)∧((type_of% @Jzq)∧(type_of% @JvU))))∧(((type_of% @JrM)∧((type_of% @JvY)∧(type_of% @Jwa)))∧((type_of% @Jti)∧((type_of% @JCH)∧(type_of% @JxX))))):=⟨⟨⟨@JtB,⟨@Jvg,@Jxg⟩⟩,⟨@JqJ,⟨@Jzq,@JvU⟩⟩⟩,⟨⟨@JrM,⟨@JvY,@Jwa⟩⟩,⟨@Jti,⟨@JCH,@JxX⟩⟩⟩⟩
theorem y_44:((((((type_of% @Jx7)∧(type_of% @JtI))∧((type_of% @Jz8)∧((type_of% @Jq8)∧(type_of% @Jtg))))∧(((type_of% @JpJ)∧(type_of% @JqG))∧((type_of% @Jsq)∧((type_of% @JqP)∧(type_of% @Jq9)))))∧((((type_of% @JsB)∧(type_of% @JrR))∧((type_of% @JqF)∧((type_of% @Jtm)∧(type_of% @Jsk))))∧(((type_of% @JsP)∧(type_of% @Jte))∧((type_of% @Jpf)∧((type_of% @Js7)∧(type_of% @Jq4))))))∧(((((type_of% @Js2)∧(type_of% @JqN))∧((type_of% @Jrh)∧((type_of% @JrX)∧(type_of% @JrJ))))∧(((type_of% @JrG)∧(type_of% @JqW))∧((type_of% @JuN)∧((type_of% @Jmh)∧(type_of% @Jly)))))∧((((type_of% @JkX)∧(type_of% @JlL))∧((type_of% @JlQ)∧((type_of% @Jms)∧(type_of% @JmK))))∧(((type_of% @Jlx)∧((type_of% @Jmu)∧(type_of% @Jln)))∧((type_of% @JlU)∧((type_of% @JCq)∧(type_of% @Jxl))))))):=⟨⟨⟨⟨⟨@Jx7,@JtI⟩,⟨@Jz8,⟨@Jq8,@Jtg⟩⟩⟩,⟨⟨@JpJ,@JqG⟩,⟨@Jsq,⟨@JqP,@Jq9⟩⟩⟩⟩,⟨⟨⟨@JsB,@JrR⟩,⟨@JqF,⟨@Jtm,@Jsk⟩⟩⟩,⟨⟨@JsP,@Jte⟩,⟨@Jpf,⟨@Js7,@Jq4⟩⟩⟩⟩⟩,⟨⟨⟨⟨@Js2,@JqN⟩,⟨@Jrh,⟨@JrX,@JrJ⟩⟩⟩,⟨⟨@JrG,@JqW⟩,⟨@JuN,⟨@Jmh,@Jly⟩⟩⟩⟩,⟨⟨⟨@JkX,@JlL⟩,⟨@JlQ,⟨@Jms,@JmK⟩⟩⟩,⟨⟨@Jlx,⟨@Jmu,@Jln⟩⟩,⟨@JlU,⟨@JCq,@Jxl⟩⟩⟩⟩⟩⟩
theorem y_55:((((type_of% @Tryz.underlying55)∧(type_of% @Jru))∧((type_of% @JuD)∧(type_of% @Jw9)))∧(((type_of% @Jz1)∧(type_of% @JvX))∧((type_of% @JtC)∧((type_of% @JvP)∧(type_of% @JqY))))):=⟨⟨⟨@Tryz.underlying55,@Jru⟩,⟨@JuD,@Jw9⟩⟩,⟨⟨@Jz1,@JvX⟩,⟨@JtC,⟨@JvP,@JqY⟩⟩⟩⟩
theorem y_63:(((((type_of% @Jxs)∧(type_of% @Jrb))∧((type_of% @Jzi)∧((type_of% @JsT)∧(type_of% @JsS))))∧(((type_of% @JtG)∧((type_of% @JtT)∧(type_of% @JsY)))∧((type_of% @Jtt)∧((type_of% @JqV)∧(type_of% @Jrp)))))∧((((type_of% @JsG)∧((type_of% @JqR)∧(type_of% @Jr5)))∧((type_of% @Jtv)∧((type_of% @Jvz)∧(type_of% @Jmp))))∧(((type_of% @Jll)∧((type_of% @JlM)∧(type_of% @Jls)))∧((type_of% @Jmr)∧((type_of% @JCv)∧(type_of% @Jyb)))))):=⟨⟨⟨⟨@Jxs,@Jrb⟩,⟨@Jzi,⟨@JsT,@JsS⟩⟩⟩,⟨⟨@JtG,⟨@JtT,@JsY⟩⟩,⟨@Jtt,⟨@JqV,@Jrp⟩⟩⟩⟩,⟨⟨⟨@JsG,⟨@JqR,@Jr5⟩⟩,⟨@Jtv,⟨@Jvz,@Jmp⟩⟩⟩,⟨⟨@Jll,⟨@JlM,@Jls⟩⟩,⟨@Jmr,⟨@JCv,@Jyb⟩⟩⟩⟩⟩
theorem y_65:(((((type_of% @Jzo)∧(type_of% @Jtb))∧((type_of% @Js8)∧((type_of% @Jr9)∧(type_of% @Js6))))∧(((type_of% @Jsn)∧((type_of% @JrN)∧(type_of% @JqD)))∧((type_of% @Jra)∧((type_of% @JrC)∧(type_of% @Jth)))))∧((((type_of% @JrA)∧(type_of% @JrV))∧((type_of% @Jsr)∧((type_of% @Jl6)∧(type_of% @JlD))))∧(((type_of% @Jmd)∧((type_of% @Jlz)∧(type_of% @JmF)))∧((type_of% @Jl4)∧((type_of% @JCD)∧(type_of% @JxC)))))):=⟨⟨⟨⟨@Jzo,@Jtb⟩,⟨@Js8,⟨@Jr9,@Js6⟩⟩⟩,⟨⟨@Jsn,⟨@JrN,@JqD⟩⟩,⟨@Jra,⟨@JrC,@Jth⟩⟩⟩⟩,⟨⟨⟨@JrA,@JrV⟩,⟨@Jsr,⟨@Jl6,@JlD⟩⟩⟩,⟨⟨@Jmd,⟨@Jlz,@JmF⟩⟩,⟨@Jl4,⟨@JCD,@JxC⟩⟩⟩⟩⟩
theorem y_70:((((type_of% @Jyc)∧((type_of% @Jzr)∧(type_of% @JsN)))∧((type_of% @Jrn)∧((type_of% @Jre)∧(type_of% @JsM))))∧(((type_of% @JtE)∧((type_of% @Jtp)∧(type_of% @Jwc)))∧(((type_of% @Jmy)∧(type_of% @JlH))∧((type_of% @JCn)∧(type_of% @Jyg))))):=⟨⟨⟨@Jyc,⟨@Jzr,@JsN⟩⟩,⟨@Jrn,⟨@Jre,@JsM⟩⟩⟩,⟨⟨@JtE,⟨@Jtp,@Jwc⟩⟩,⟨⟨@Jmy,@JlH⟩,⟨@JCn,@Jyg⟩⟩⟩⟩
theorem y_78:((((type_of% @JxG)∧(type_of% @JzL))∧((type_of% @Jq3)∧((type_of% @JsF)∧(type_of% @Jnq))))∧(((type_of% @Jro)∧((type_of% @Jrm)∧(type_of% @JvK)))∧((type_of% @Jlt)∧((type_of% @JCx)∧(type_of% @Jyj))))):=⟨⟨⟨@JxG,@JzL⟩,⟨@Jq3,⟨@JsF,@Jnq⟩⟩⟩,⟨⟨@Jro,⟨@Jrm,@JvK⟩⟩,⟨@Jlt,⟨@JCx,@Jyj⟩⟩⟩⟩
theorem y_80:(((type_of% @Jtw)∧(type_of% @Jwu))∧((type_of% @JwA)∧(type_of% @JrD))):=⟨⟨@Jtw,@Jwu⟩,⟨@JwA,@JrD⟩⟩
theorem y_81:(((type_of% @JqU)∧(type_of% @JuO))∧((type_of% @JuF)∧(type_of% @Jq0))):=⟨⟨@JqU,@JuO⟩,⟨@JuF,@Jq0⟩⟩
theorem y_90:(((((type_of% @Jxd)∧(type_of% @Jtd))∧((type_of% @JzT)∧((type_of% @Jrs)∧(type_of% @Jtz))))∧(((type_of% @JsA)∧(type_of% @Jtn))∧((type_of% @JqO)∧((type_of% @Jq5)∧(type_of% @Jss)))))∧((((type_of% @Jto)∧(type_of% @Jrl))∧((type_of% @JtD)∧((type_of% @Jup)∧(type_of% @JlE))))∧(((type_of% @JmI)∧(type_of% @Jld))∧((type_of% @Jlm)∧((type_of% @JCN)∧(type_of% @JxK)))))):=⟨⟨⟨⟨@Jxd,@Jtd⟩,⟨@JzT,⟨@Jrs,@Jtz⟩⟩⟩,⟨⟨@JsA,@Jtn⟩,⟨@JqO,⟨@Jq5,@Jss⟩⟩⟩⟩,⟨⟨⟨@Jto,@Jrl⟩,⟨@JtD,⟨@Jup,@JlE⟩⟩⟩,⟨⟨@JmI,@Jld⟩,⟨@Jlm,⟨@JCN,@JxK⟩⟩⟩⟩⟩
theorem y_99:(((((type_of% @JAP)∧(type_of% @Jri))∧((type_of% @JrO)∧(type_of% @Jq7)))∧(((type_of% @Jtf)∧(type_of% @Jr8))∧((type_of% @JtM)∧((type_of% @Jsb)∧(type_of% @JsW)))))∧((((type_of% @Jsd)∧(type_of% @Jsu))∧((type_of% @JqT)∧((type_of% @Jl3)∧(type_of% @Jmb))))∧(((type_of% @JmN)∧(type_of% @JlP))∧((type_of% @JlV)∧((type_of% @JCl)∧(type_of% @Jyn)))))):=⟨⟨⟨⟨@JAP,@Jri⟩,⟨@JrO,@Jq7⟩⟩,⟨⟨@Jtf,@Jr8⟩,⟨@JtM,⟨@Jsb,@JsW⟩⟩⟩⟩,⟨⟨⟨@Jsd,@Jsu⟩,⟨@JqT,⟨@Jl3,@Jmb⟩⟩⟩,⟨⟨@JmN,@JlP⟩,⟨@JlV,⟨@JCl,@Jyn⟩⟩⟩⟩⟩
theorem Juh:(((((type_of% @JxB)∧(type_of% @Jou))∧((type_of% @JoC)∧(type_of% @Jpu)))∧(((type_of% @Jph)∧(type_of% @JoU))∧((type_of% @JpR)∧(type_of% @Jpb))))∧((((type_of% @JpH)∧(type_of% @JoO))∧((type_of% @JkP)∧(type_of% @JkN)))∧(((type_of% @JkF)∧(type_of% @JkG))∧((type_of% @Jze)∧(type_of% @Jux))))):=⟨⟨⟨⟨@JxB,@Jou⟩,⟨@JoC,@Jpu⟩⟩,⟨⟨@Jph,@JoU⟩,⟨@JpR,@Jpb⟩⟩⟩,⟨⟨⟨@JpH,@JoO⟩,⟨@JkP,@JkN⟩⟩,⟨⟨@JkF,@JkG⟩,⟨@Jze,@Jux⟩⟩⟩⟩
theorem JE1:((((type_of% @Jvq)∧(type_of% @Jxr))∧((type_of% @Jpw)∧((type_of% @JpT)∧(type_of% @Jl1))))∧(((type_of% @Jn7)∧((type_of% @JpP)∧(type_of% @Jrr)))∧((type_of% @JkI)∧((type_of% @Jz2)∧(type_of% @JuY))))):=⟨⟨⟨@Jvq,@Jxr⟩,⟨@Jpw,⟨@JpT,@Jl1⟩⟩⟩,⟨⟨@Jn7,⟨@JpP,@Jrr⟩⟩,⟨@JkI,⟨@Jz2,@JuY⟩⟩⟩⟩
theorem JCL:(((type_of% @Jvt)∧(type_of% @Jxv))∧((type_of% @Jo4)∧(type_of% @Jrq))):=⟨⟨@Jvt,@Jxv⟩,⟨@Jo4,@Jrq⟩⟩
theorem Jkk:(((((type_of% @Jw7)∧(type_of% @JpC))∧((type_of% @JpD)∧(type_of% @Jog)))∧(((type_of% @Jol)∧(type_of% @JoY))∧((type_of% @Jot)∧(type_of% @Joh))))∧((((type_of% @Jpp)∧(type_of% @Jo1))∧((type_of% @JkK)∧(type_of% @JkB)))∧(((type_of% @JkT)∧(type_of% @JkE))∧((type_of% @JzF)∧(type_of% @JvR))))):=⟨⟨⟨⟨@Jw7,@JpC⟩,⟨@JpD,@Jog⟩⟩,⟨⟨@Jol,@JoY⟩,⟨@Jot,@Joh⟩⟩⟩,⟨⟨⟨@Jpp,@Jo1⟩,⟨@JkK,@JkB⟩⟩,⟨⟨@JkT,@JkE⟩,⟨@JzF,@JvR⟩⟩⟩⟩
theorem JyY:((((type_of% @Jvk)∧(type_of% @Jx9))∧((type_of% @Jod)∧((type_of% @Joq)∧(type_of% @JlN))))∧(((type_of% @Jpk)∧((type_of% @Jo6)∧(type_of% @JrY)))∧((type_of% @JkO)∧((type_of% @JzH)∧(type_of% @JvF))))):=⟨⟨⟨@Jvk,@Jx9⟩,⟨@Jod,⟨@Joq,@JlN⟩⟩⟩,⟨⟨@Jpk,⟨@Jo6,@JrY⟩⟩,⟨@JkO,⟨@JzH,@JvF⟩⟩⟩⟩
theorem JpQ:((((type_of% @JpA)∧(type_of% @Jr2))∧((type_of% @Jus)∧((type_of% @JxS)∧(type_of% @JsU))))∧(((type_of% @JoP)∧((type_of% @Jtu)∧(type_of% @JsV)))∧((type_of% @Jon)∧((type_of% @JzP)∧(type_of% @Jwl))))):=⟨⟨⟨@JpA,@Jr2⟩,⟨@Jus,⟨@JxS,@JsU⟩⟩⟩,⟨⟨@JoP,⟨@Jtu,@JsV⟩⟩,⟨@Jon,⟨@JzP,@Jwl⟩⟩⟩⟩
theorem JEX:((((type_of% @Ju7)∧(type_of% @Jsl))∧((type_of% @Jvr)∧((type_of% @Ju8)∧(type_of% @Jyh))))∧(((type_of% @Jo0)∧(type_of% @Jpt))∧((type_of% @JrP)∧((type_of% @JAM)∧(type_of% @JvG))))):=⟨⟨⟨@Ju7,@Jsl⟩,⟨@Jvr,⟨@Ju8,@Jyh⟩⟩⟩,⟨⟨@Jo0,@Jpt⟩,⟨@JrP,⟨@JAM,@JvG⟩⟩⟩⟩
theorem Jug:(((((type_of% @JuG)∧(type_of% @Jn8))∧((type_of% @JxM)∧(type_of% @JoA)))∧(((type_of% @Jpq)∧(type_of% @Jpa))∧((type_of% @Joa)∧(type_of% @Jox))))∧((((type_of% @JoG)∧(type_of% @JoH))∧((type_of% @JpF)∧(type_of% @Js5)))∧(((type_of% @JkH)∧(type_of% @JkJ))∧((type_of% @JkM)∧((type_of% @JAf)∧(type_of% @JuK)))))):=⟨⟨⟨⟨@JuG,@Jn8⟩,⟨@JxM,@JoA⟩⟩,⟨⟨@Jpq,@Jpa⟩,⟨@Joa,@Jox⟩⟩⟩,⟨⟨⟨@JoG,@JoH⟩,⟨@JpF,@Js5⟩⟩,⟨⟨@JkH,@JkJ⟩,⟨@JkM,⟨@JAf,@JuK⟩⟩⟩⟩⟩
theorem JE7:(((type_of% @Juu)∧(type_of% @Jyi))∧((type_of% @Jn0)∧((type_of% @Js4)∧(type_of% @JsO)))):=⟨⟨@Juu,@Jyi⟩,⟨@Jn0,⟨@Js4,@JsO⟩⟩⟩
theorem JCA:((type_of% @JqH)∧(type_of% @Joo)):=⟨@JqH,@Joo⟩
theorem JCm:((type_of% @Jsz)∧(type_of% @Jpr)):=⟨@Jsz,@Jpr⟩
theorem JDt:Jd Tryz.prog 11:=Je Tryz.func11 (by kernel_rfl) (by kernel_rfl)
theorem JDG:Jd Tryz.prog 13:=Je Tryz.func13 (by kernel_rfl) (by kernel_rfl)
theorem JDm:Jd Tryz.prog 15:=Je Tryz.func15 (by kernel_rfl) (by kernel_rfl)
theorem JDR:Jd Tryz.prog 16:=Je Tryz.func16 (by kernel_rfl) (by kernel_rfl)
theorem JDd:Jd Tryz.prog 17:=Je Tryz.func17 (by kernel_rfl) (by kernel_rfl)
theorem JDW:Jd Tryz.prog 18:=Je Tryz.func18 (by kernel_rfl) (by kernel_rfl)
theorem JDw:Jd Tryz.prog 20:=Je Tryz.func20 (by kernel_rfl) (by kernel_rfl)
theorem JC9:Jd Tryz.prog 21:=Je Tryz.func21 (by kernel_rfl) (by kernel_rfl)
theorem JxH:Jd Tryz.prog 22:=Je Tryz.func22 (by kernel_rfl) (by kernel_rfl)
theorem JxO:Jd Tryz.prog 23:=Je Tryz.func23 (by kernel_rfl) (by kernel_rfl)
theorem Jya:Jd Tryz.prog 24:=Je Tryz.func24 (by kernel_rfl) (by kernel_rfl)
theorem JDi:Jd Tryz.prog 27:=Je Tryz.func27 (by kernel_rfl) (by kernel_rfl)
theorem JDe:Jd Tryz.prog 28:=Je Tryz.func28 (by kernel_rfl) (by kernel_rfl)
theorem JCZ:Jd Tryz.prog 29:=Je Tryz.func29 (by kernel_rfl) (by kernel_rfl)
theorem JDS:Jd Tryz.prog 30:=Je Tryz.func30 (by kernel_rfl) (by kernel_rfl)
theorem Jye:Jd Tryz.prog 31:=Je Tryz.func31 (by kernel_rfl) (by kernel_rfl)
theorem JDc:Jd Tryz.prog 32:=Je Tryz.func32 (by kernel_rfl) (by kernel_rfl)
theorem JCQ:Jd Tryz.prog 33:=Je Tryz.func33 (by kernel_rfl) (by kernel_rfl)
theorem JCU:Jd Tryz.prog 34:=Je Tryz.func34 (by kernel_rfl) (by kernel_rfl)
theorem JDY:Jd Tryz.prog 35:=Je Tryz.func35 (by kernel_rfl) (by kernel_rfl)
theorem JCO:Jd Tryz.prog 36:=Je Tryz.func36 (by kernel_rfl) (by kernel_rfl)
theorem JDr:Jd Tryz.prog 37:=Je Tryz.func37 (by kernel_rfl) (by kernel_rfl)
theorem Jyl:Jd Tryz.prog 38:=Je Tryz.func38 (by kernel_rfl) (by kernel_rfl)
theorem JDu:Jd Tryz.prog 39:=Je Tryz.func39 (by kernel_rfl) (by kernel_rfl)
theorem Jx3:Jd Tryz.prog 41:=Je Tryz.func41 (by kernel_rfl) (by kernel_rfl)
theorem Jw8:Jd Tryz.prog 42:=Je Tryz.func42 (by kernel_rfl) (by kernel_rfl)
theorem JDb:Jd Tryz.prog 43:=Je Tryz.func43 (by kernel_rfl) (by kernel_rfl)
theorem JD5:Jd Tryz.prog 44:=Je Tryz.func44 (by kernel_rfl) (by kernel_rfl)
theorem JDf:Jd Tryz.prog 45:=Je Tryz.func45 (by kernel_rfl) (by kernel_rfl)
theorem JDh:Jd Tryz.prog 46:=Je Tryz.func46 (by kernel_rfl) (by kernel_rfl)
theorem JCV:Jd Tryz.prog 47:=Je Tryz.func47 (by kernel_rfl) (by kernel_rfl)
theorem JDM:Jd Tryz.prog 48:=Je Tryz.func48 (by kernel_rfl) (by kernel_rfl)
theorem JDT:Jd Tryz.prog 49:=Je Tryz.func49 (by kernel_rfl) (by kernel_rfl)
theorem JC4:Jd Tryz.prog 50:=Je Tryz.func50 (by kernel_rfl) (by kernel_rfl)
theorem JDH:Jd Tryz.prog 51:=Je Tryz.func51 (by kernel_rfl) (by kernel_rfl)
theorem JDV:Jd Tryz.prog 52:=Je Tryz.func52 (by kernel_rfl) (by kernel_rfl)
theorem JDK:Jd Tryz.prog 53:=Je Tryz.func53 (by kernel_rfl) (by kernel_rfl)
theorem JDD:Jd Tryz.prog 54:=Je Tryz.func54 (by kernel_rfl) (by kernel_rfl)
theorem JC1:Jd Tryz.prog 55:=Je Tryz.func55 (by kernel_rfl) (by kernel_rfl)
theorem JCW:Jd Tryz.prog 56:=Je Tryz.func56 (by kernel_rfl) (by kernel_rfl)
theorem JD0:Jd Tryz.prog 57:=Je Tryz.func57 (by kernel_rfl) (by kernel_rfl)
theorem Jxk:Jd Tryz.prog 58:=Je Tryz.func58 (by kernel_rfl) (by kernel_rfl)
theorem Jyp:Jd Tryz.prog 60:=Je Tryz.func60 (by kernel_rfl) (by kernel_rfl)
theorem JDq:Jd Tryz.prog 65:=Je Tryz.func65 (by kernel_rfl) (by kernel_rfl)
theorem JDQ:Jd Tryz.prog 66:=Je Tryz.func66 (by kernel_rfl) (by kernel_rfl)
theorem JDk:Jd Tryz.prog 67:=Je Tryz.func67 (by kernel_rfl) (by kernel_rfl)
theorem JpY:Jd Tryz.prog 68:=Je Tryz.func68 (by kernel_rfl) (by kernel_rfl)
theorem JCR:Jd Tryz.prog 69:=Je Tryz.func69 (by kernel_rfl) (by kernel_rfl)
theorem Jqi:Jd Tryz.prog 70:=Je Tryz.func70 (by kernel_rfl) (by kernel_rfl)
theorem JDL:Jd Tryz.prog 71:=Je Tryz.func71 (by kernel_rfl) (by kernel_rfl)
theorem Jqt:Jd Tryz.prog 72:=Je Tryz.func72 (by kernel_rfl) (by kernel_rfl)
theorem JD7:Jd Tryz.prog 73:=Je Tryz.func73 (by kernel_rfl) (by kernel_rfl)
theorem JDX:Jd Tryz.prog 74:=Je Tryz.func74 (by kernel_rfl) (by kernel_rfl)
theorem JDZ:Jd Tryz.prog 75:=Je Tryz.func75 (by kernel_rfl) (by kernel_rfl)
theorem JDp:Jd Tryz.prog 76:=Je Tryz.func76 (by kernel_rfl) (by kernel_rfl)
theorem JCS:Jd Tryz.prog 77:=Je Tryz.func77 (by kernel_rfl) (by kernel_rfl)
theorem JDz:Jd Tryz.prog 78:=Je Tryz.func78 (by kernel_rfl) (by kernel_rfl)
theorem JDB:Jd Tryz.prog 79:=Je Tryz.func79 (by kernel_rfl) (by kernel_rfl)
theorem JC8:Jd Tryz.prog 80:=Je Tryz.func80 (by kernel_rfl) (by kernel_rfl)
theorem JD2:Jd Tryz.prog 81:=Je Tryz.func81 (by kernel_rfl) (by kernel_rfl)
theorem JDg:Jd Tryz.prog 85:=Je Tryz.func85 (by kernel_rfl) (by kernel_rfl)
theorem Jqq:Jd Tryz.prog 86:=Je Tryz.func86 (by kernel_rfl) (by kernel_rfl)
theorem JC0:Jd Tryz.prog 90:=Je Tryz.func90 (by kernel_rfl) (by kernel_rfl)
theorem JDF:Jd Tryz.prog 91:=Je Tryz.func91 (by kernel_rfl) (by kernel_rfl)
theorem JCj:Jd Tryz.prog 100:=Je Tryz.func100 (by kernel_rfl) (by kernel_rfl)
theorem JBP:Jd Tryz.prog 101:=Je Tryz.func101 (by kernel_rfl) (by kernel_rfl)
theorem Ju6:Jd Tryz.prog 102:=Je Tryz.func102 (by kernel_rfl) (by kernel_rfl)
theorem JuZ:Jd Tryz.prog 103:=Je Tryz.func103 (by kernel_rfl) (by kernel_rfl)
theorem JCd:Jd Tryz.prog 104:=Je Tryz.func104 (by kernel_rfl) (by kernel_rfl)
theorem JBx:Jd Tryz.prog 105:=Je Tryz.func105 (by kernel_rfl) (by kernel_rfl)
theorem JAY:Jd Tryz.prog 106:=Je Tryz.func106 (by kernel_rfl) (by kernel_rfl)
theorem JBM:Jd Tryz.prog 108:=Je Tryz.func108 (by kernel_rfl) (by kernel_rfl)
theorem JBR:Jd Tryz.prog 109:=Je Tryz.func109 (by kernel_rfl) (by kernel_rfl)
theorem JCf:Jd Tryz.prog 110:=Je Tryz.func110 (by kernel_rfl) (by kernel_rfl)
theorem JBs:Jd Tryz.prog 114:=Je Tryz.func114 (by kernel_rfl) (by kernel_rfl)
theorem JB3:Jd Tryz.prog 115:=Je Tryz.func115 (by kernel_rfl) (by kernel_rfl)
theorem JBh:Jd Tryz.prog 116:=Je Tryz.func116 (by kernel_rfl) (by kernel_rfl)
theorem Jvo:Jd Tryz.prog 121:=Je Tryz.func121 (by kernel_rfl) (by kernel_rfl)
theorem JA0:Jd Tryz.prog 122:=Je Tryz.func122 (by kernel_rfl) (by kernel_rfl)
theorem JBr:Jd Tryz.prog 123:=Je Tryz.func123 (by kernel_rfl) (by kernel_rfl)
theorem JA1:Jd Tryz.prog 124:=Je Tryz.func124 (by kernel_rfl) (by kernel_rfl)
theorem JA8:Jd Tryz.prog 125:=Je Tryz.func125 (by kernel_rfl) (by kernel_rfl)
theorem JCe:Jd Tryz.prog 126:=Je Tryz.func126 (by kernel_rfl) (by kernel_rfl)
theorem JCc:Jd Tryz.prog 127:=Je Tryz.func127 (by kernel_rfl) (by kernel_rfl)
theorem JBq:Jd Tryz.prog 128:=Je Tryz.func128 (by kernel_rfl) (by kernel_rfl)
theorem JnA:Jd Tryz.prog 129:=Je Tryz.func129 (by kernel_rfl) (by kernel_rfl)
theorem JB1:Jd Tryz.prog 130:=Je Tryz.func130 (by kernel_rfl) (by kernel_rfl)
theorem JA3:Jd Tryz.prog 131:=Je Tryz.func131 (by kernel_rfl) (by kernel_rfl)
theorem JBH:Jd Tryz.prog 132:=Je Tryz.func132 (by kernel_rfl) (by kernel_rfl)
theorem JAV:Jd Tryz.prog 133:=Je Tryz.func133 (by kernel_rfl) (by kernel_rfl)
theorem JBK:Jd Tryz.prog 138:=Je Tryz.func138 (by kernel_rfl) (by kernel_rfl)
theorem JBl:Jd Tryz.prog 143:=Je Tryz.func143 (by kernel_rfl) (by kernel_rfl)
theorem JCg:Jd Tryz.prog 144:=Je Tryz.func144 (by kernel_rfl) (by kernel_rfl)
theorem JA5:Jd Tryz.prog 145:=Je Tryz.func145 (by kernel_rfl) (by kernel_rfl)
theorem JAW:Jd Tryz.prog 146:=Je Tryz.func146 (by kernel_rfl) (by kernel_rfl)
theorem JBG:Jd Tryz.prog 147:=Je Tryz.func147 (by kernel_rfl) (by kernel_rfl)
theorem JBX:Jd Tryz.prog 148:=Je Tryz.func148 (by kernel_rfl) (by kernel_rfl)
theorem JBB:Jd Tryz.prog 149:=Je Tryz.func149 (by kernel_rfl) (by kernel_rfl)
theorem JBf:Jd Tryz.prog 159:=Je Tryz.func159 (by kernel_rfl) (by kernel_rfl)
theorem JBL:Jd Tryz.prog 160:=Je Tryz.func160 (by kernel_rfl) (by kernel_rfl)
theorem JBo:Jd Tryz.prog 161:=Je Tryz.func161 (by kernel_rfl) (by kernel_rfl)
theorem JBt:Jd Tryz.prog 162:=Je Tryz.func162 (by kernel_rfl) (by kernel_rfl)
theorem JuM:Jd Tryz.prog 163:=Je Tryz.func163 (by kernel_rfl) (by kernel_rfl)
theorem JBZ:Jd Tryz.prog 166:=Je Tryz.func166 (by kernel_rfl) (by kernel_rfl)
theorem JA4:Jd Tryz.prog 167:=Je Tryz.func167 (by kernel_rfl) (by kernel_rfl)
theorem JB8:Jd Tryz.prog 174:=Je Tryz.func174 (by kernel_rfl) (by kernel_rfl)
theorem JBC:Jd Tryz.prog 177:=Je Tryz.func177 (by kernel_rfl) (by kernel_rfl)
theorem JBT:Jd Tryz.prog 180:=Je Tryz.func180 (by kernel_rfl) (by kernel_rfl)
theorem JxD(l:List UInt8):u8s l=List.map dU l:=rfl
theorem mixed:Tryz.prog.follows .mixedOrders=true:=Tryz.checked.mixed
theorem Jp{α:Type}(σ:Nat→α)(d:Nat)(x:α)(i:Nat):upd σ d x i=if i=d then x else σ i:=rfl
theorem JkC{α:Type}(l:List α)(i:Nat):(l.drop i).take (l.length-i)=l.drop i:=List.take_of_length_le (by simp)
theorem JqC{α β:Type}(f:α→β)(l:List α)(i:Nat):(l.map f).drop i=(l.drop i).map f:=List.map_drop.symm
theorem Jrc{α β:Type}(f:α→β)(l:List α)(i:Nat):(l.map f).take i=(l.take i).map f:=List.map_take.symm
theorem Jq{S R:Type}{b:S→Option (S ⊕ R)}{n:Nat}{x:Option R}{o:S ⊕ R}{out:R}(h:inrO x=some o)(hF:Fin' b n o out):x=some out:=by
 obtain⟨r,h1,rfl⟩:=JAe h
 cases hF
 exact h1
theorem JA{S R:Type}{b:S→Option (S ⊕ R)}{n:Nat}{s:S}{o:S ⊕ R}{out:R}(h:(some (.inl s):Option (S ⊕ R))=some o)(hF:Fin' b n o out):Fin' b n (.inl s) out:=by
 obtain rfl:=Option.some.inj h
 exact hF
end Go.Proofs.YtfkhlbhjhdpkoaaGreatDoor
